import Derived.WalkKit
import Derived.OrdersHeld
import Derived.Deep.MidRow
import Derived.KernelRfl
import Derived.Deep.LoopGhost
import Derived.OwnWalk
import Derived.Scope
import Derived.IntWalk
import Derived.Deep.Quiet
import Derived.Laws.StructEq
import Derived.ProofKit
import Derived.Deep.Slices
import Derived.Laws.LoneSync
import Derived.MapKept
import Derived.Carry
import Derived.Laws.ResultCell
import Derived.Laws.Cover3
import Derived.RangeFuncNested
import Derived.RangeFuncLeaves
import Derived.Sort.LoopGhostIn
import Derived.ArgAppend
import Derived.Laws.OwnMore
import Derived.Lib.UnsafeStr
import Derived.Lib.Builder
import Derived.Lib.Bytealg
import Derived.Laws.IdiomStrings
import Derived.Maps.RangeRun
import Derived.WideLaws
import Derived.Laws.Entries
import Derived.Laws.Externs
import Derived.Laws.IdiomCopy
import Derived.Sort.Walk0
import Derived.Lib.AppendZerosOnto
import Derived.Stop.BytesEq
import Derived.Test.YtjidffamcdcecaaGreatProg
import Derived.Lib.Hide
import Derived.LoopN
import Derived.Defers
import Derived.Lib.Overlaps
import Derived.Shelf.SlSortCmp.WholeK
import Derived.Shelf.SlGeneric
import Derived.Shelf.Small.Strs
import Derived.Ground.SlsfProg
import Derived.Shelf.SlSortCmp.NoneTotal
import Derived.Shelf.SlIter.Sorted
import Derived.Shelf.SlIter.Nil
import Derived.Shelf.SortM.Plain
import Derived.Shelf.SortM.SortNone
import Derived.Ground.GgzProg
import Derived.Ground.SlgmProg
import Derived.DataShut
import Derived.OpenShut
/- What the law leans on. -/
namespace Go.Proofs.YtjidffamcdcecaaGreat.V
open Go Go.RowKit
set_option linter.unusedVariables false
theorem nbeq {i j:Nat}(h:¬i=j):Nat.beq i j=false:=by
 cases hb:Nat.beq i j
 ·rfl
 ·exact absurd (Nat.eq_of_beq_eq_true hb) h
abbrev Ks:=List (Nat×Value)
def look:Ks→Nat→Option Value
 |[],_=>none
 |(i,v)::r,j=>match Nat.beq i j with|true=>some v|false=>look r j
structure Fr (n:Nat)(ks:Ks)(a:Act):Prop where
 defers:a.defers=[]
 size:a.tmps.size=n
 at_:∀i v,look ks i=some v→a.tmps[i]? =some v
def ev (ks:Ks):Operand→Option Value
 | .tmp t=>look ks t
 | .const v=>some v
 | .global g=>some (.pointer (some ⟨g,0,none⟩))
 | .func f=>some (.func (.func f) #[] #[])
theorem Fr.ev {n:Nat}{ks:Ks}{a:Act}(h:Fr n ks a){x:Operand}{v:Value}(he:ev ks x=some v):a.eval x=v:=by
 cases x with
 |tmp t=>simp[V.ev] at he;simp[Act.eval,h.at_ _ _ he]
 |const u=>simp[V.ev] at he;simp[Act.eval,he]
 |global g=>simp[V.ev] at he;simp[Act.eval,he]
 |func f=>simp[V.ev] at he;simp[Act.eval,he]
def push (ks:Ks):Option Tmp→Value→Ks
 |none,_=>ks
 |some d,v=>(d,v)::ks
def dok (n:Nat):Option Tmp→Bool
 |none=>true
 |some d=>Nat.blt d n
theorem Fr.put {n:Nat}{ks:Ks}{a:Act}(h:Fr n ks a){dst:Option Tmp}(hd:dok n dst=true)(v:Value):Fr n (push ks dst v) (a.put dst v):=by
 cases dst with
 |none=>exact h
 |some d=>
  have hd':d<n:=by simpa[dok,Nat.blt_eq] using hd
  refine⟨h.defers,by simp[Act.put,h.size],fun i u hi=>?_⟩
  simp only[push,look] at hi
  by_cases e:d=i
  ·subst e
   simp at hi
   have hs:=h.size
   simp[Act.put,hs,hd',hi]
  ·have:Nat.beq d i=false:=nbeq e
   rw[this] at hi
   simp only at hi
   simp[Act.put,Array.getElem?_setIfInBounds_ne e,h.at_ _ _ hi]
def subK:Ks→Ks→Prop
 |[],_=>True
 |(i,v)::r,ks=>look ks i=some v∧subK r ks
theorem look_of_subK {ks:Ks}:∀{t:Ks},subK t ks→∀i v,look t i=some v→look ks i=some v
 |[],_,i,v,h=>by cases h
 |(j,u)::r,hs,i,v,h=>by
  simp only[look] at h
  by_cases e:j=i
  ·subst e;simp at h;subst h;exact hs.1
  ·have:Nat.beq j i=false:=nbeq e
   rw[this] at h
   exact look_of_subK hs.2 i v h
theorem Fr.sub {n:Nat}{ks t:Ks}{a:Act}(h:Fr n ks a)(hs:subK t ks):Fr n t a:=⟨h.defers,h.size,fun i v hi=>h.at_ i v (look_of_subK hs i v hi)⟩
abbrev Seg:=List (Nat×Obj)
abbrev Sg:=List Seg
structure Base where
 w:World
 F:List Nat
structure Hp (B:Base)(sg:Sg)(w:World):Prop where
 os:w.os=B.w.os
 tape:w.tape=B.w.tape
 output:w.output=B.w.output
 size:B.w.heap.size≤w.heap.size
 old:∀b,b<B.w.heap.size→b∉B.F→w.heap[b]? =B.w.heap[b]?
 own:∀p∈sg.flatten,w.heap[p.1]? =some p.2
 lo:∀p∈sg.flatten,B.w.heap.size≤p.1∨p.1∈B.F
 nd:(sg.flatten.map Prod.fst).Nodup
structure Sat (sg:Sg)(w:World):Prop where
 own:∀p∈sg.flatten,w.heap[p.1]? =some p.2
 nd:(sg.flatten.map Prod.fst).Nodup
theorem Hp.sat {B:Base}{sg:Sg}{w:World}(h:Hp B sg w):Sat sg w:=⟨h.own,h.nd⟩
def ids (sg:Sg):List Nat:=sg.flatten.map Prod.fst
theorem Hp.start {sg:Sg}{w:World}(h:Sat sg w):Hp ⟨w,ids sg⟩ sg w:=
 ⟨rfl,rfl,rfl,Nat.le_refl _,fun _ _ _=>rfl,h.own,fun p hp=> .inr (List.mem_map.2 ⟨p,hp,rfl⟩),h.nd⟩
theorem hp_none (w:World):Hp ⟨w,[]⟩ [] w:=⟨rfl,rfl,rfl,Nat.le_refl _,fun _ _ _=>rfl,fun _ h=>by simp at h,fun _ h=>by simp at h,by simp⟩
theorem Hp.below {w0:World}{sg:Sg}{w:World}(h:Hp ⟨w0,[]⟩ sg w):Below w0.heap.size w0 w:=
 ⟨h.os,h.tape,h.output,h.size,fun k hk=>h.old k hk (by simp)⟩
theorem lt_of_some {w:World}{b:Nat}{o:Obj}(h:w.heap[b]? =some o):b<w.heap.size:=by
 rcases Nat.lt_or_ge b w.heap.size with h'|h'
 ·exact h'
 ·rw[Array.getElem?_eq_none h'] at h;cases h
theorem Hp.drew {B:Base}{sg:Sg}{w:World}(h:Hp B sg w):Hp B sg {w with drawn:=w.drawn+1}:=⟨h.os,h.tape,h.output,h.size,h.old,h.own,h.lo,h.nd⟩
theorem Hp.alloc {B:Base}{sg:Sg}{w:World}(h:Hp B sg w)(o:Obj):Hp B ([(w.heap.size,o)]::sg) {w with heap:=w.heap.push o}:=by
 refine⟨h.os,h.tape,h.output,by simp;exact Nat.le_succ_of_le h.size,fun b hb hf=>?_,fun p hp=>?_,fun p hp=>?_,?_⟩
 ·rw[Array.getElem?_push,if_neg (by have:=h.size;omega)];exact h.old b hb hf
 ·simp only[List.flatten_cons,List.singleton_append,List.mem_cons] at hp
  rcases hp with rfl|hp
  ·simp
  ·have:=h.own p hp
   have hlt:=lt_of_some this
   rw[Array.getElem?_push,if_neg (by omega)];exact this
 ·simp only[List.flatten_cons,List.singleton_append,List.mem_cons] at hp
  rcases hp with rfl|hp
  ·exact .inl h.size
  ·exact h.lo p hp
 ·simp only[List.flatten_cons,List.singleton_append,List.map_cons,List.nodup_cons]
  refine⟨fun hm=>?_,h.nd⟩
  obtain⟨p,hp,he⟩:=List.mem_map.1 hm
  have:=lt_of_some (h.own p hp)
  omega
inductive InS (p:Nat×Obj):Sg→Prop
 |here {s:Seg} {r:Sg}:InS p ((p::s)::r)
 |inner {q:Nat×Obj} {s:Seg} {r:Sg}:InS p (s::r)→InS p ((q::s)::r)
 |there {s:Seg} {r:Sg}:InS p r→InS p (s::r)
theorem InS.mem {p:Nat×Obj}{sg:Sg}(h:InS p sg):p∈sg.flatten:=by
 induction h with
 |here=>simp
 |inner _ ih=>simp only[List.flatten_cons,List.mem_append] at ih⊢;rcases ih with h|h<;>simp[h]
 |there _ ih=>simp only[List.flatten_cons,List.mem_append];exact .inr ih
inductive Upd (b:Nat)(o o':Obj):Sg→Sg→Prop
 |here {s:Seg} {r:Sg}:Upd b o o' (((b,o)::s)::r) (((b,o')::s)::r)
 |inner {q:Nat×Obj} {s s':Seg} {r r':Sg}:Upd b o o' (s::r) (s'::r')→Upd b o o' ((q::s)::r) ((q::s')::r')
 |there {s:Seg} {r r':Sg}:Upd b o o' r r'→Upd b o o' (s::r) (s::r')
theorem Upd.ids {b:Nat}{o o':Obj}{sg sg':Sg}(h:Upd b o o' sg sg'):sg'.flatten.map Prod.fst=sg.flatten.map Prod.fst:=by
 induction h with
 |here=>simp
 |inner _ ih=>simp only[List.flatten_cons,List.map_append,List.map_cons,List.cons_append] at ih⊢;rw[ih]
 |there _ ih=>simp only[List.flatten_cons,List.map_append] at ih⊢;rw[ih]
theorem Upd.mem {b:Nat}{o o':Obj}{sg sg':Sg}(h:Upd b o o' sg sg'):(b,o)∈sg.flatten:=by
 induction h with
 |here=>simp
 |inner _ ih=>simp only[List.flatten_cons,List.mem_append] at ih⊢;rcases ih with h|h<;>simp[h]
 |there _ ih=>simp only[List.flatten_cons,List.mem_append];exact .inr ih
theorem Upd.new {b:Nat}{o o':Obj}{sg sg':Sg}(h:Upd b o o' sg sg'):∀p∈sg'.flatten,p=(b,o')∨p∈sg.flatten:=by
 induction h with
 |here=>
  intro p hp
  simp only[List.flatten_cons,List.cons_append,List.mem_cons] at hp⊢
  rcases hp with h|h
  ·exact .inl h
  ·exact .inr (.inr h)
 |inner _ ih=>
  intro p hp
  simp only[List.flatten_cons,List.cons_append,List.mem_cons] at hp ih⊢
  rcases hp with h|h
  ·exact .inr (.inl h)
  ·rcases ih p h with h|h
   ·exact .inl h
   ·exact .inr (.inr h)
 |there _ ih=>
  intro p hp
  simp only[List.flatten_cons,List.mem_append] at hp ih⊢
  rcases hp with h|h
  ·exact .inr (.inl h)
  ·rcases ih p h with h|h
   ·exact .inl h
   ·exact .inr (.inr h)
theorem nodup_fst {l:List (Nat×Obj)}(h:(l.map Prod.fst).Nodup){p q:Nat×Obj}(hp:p∈l)(hq:q∈l)(e:p.1=q.1):p=q:=by
 induction l with
 |nil=>cases hp
 |cons x l ih=>
  simp only[List.map_cons,List.nodup_cons] at h
  simp only[List.mem_cons] at hp hq
  rcases hp with rfl|hp<;>rcases hq with rfl|hq
  ·rfl
  ·exact absurd (List.mem_map.2 ⟨q,hq,e.symm⟩) h.1
  ·exact absurd (List.mem_map.2 ⟨p,hp,e⟩) h.1
  ·exact ih h.2 hp hq
theorem Upd.old {b:Nat}{o o':Obj}{sg sg':Sg}(h:Upd b o o' sg sg')(nd:(sg.flatten.map Prod.fst).Nodup):∀p∈sg'.flatten,p.1≠b→p∈sg.flatten:=fun p hp hb=>by
 rcases h.new p hp with rfl|h
 ·exact absurd rfl hb
 ·exact h
theorem Hp.upd {B:Base}{b:Nat}{o o':Obj}{sg sg':Sg}{w w':World}(h:Hp B sg w)(u:Upd b o o' sg sg')
 (hos:w'.os=w.os)(ht:w'.tape=w.tape)(hout:w'.output=w.output)(hsz:w'.heap.size=w.heap.size)(hb:w'.heap[b]? =some o')(hne:∀k,k≠b→w'.heap[k]? =w.heap[k]?):Hp B sg' w':=by
 have hbm:=u.mem
 refine⟨hos.trans h.os,ht.trans h.tape,hout.trans h.output,by rw[hsz];exact h.size,fun k hk hf=>?_,fun p hp=>?_,fun p hp=>?_,by rw[u.ids];exact h.nd⟩
 ·rw[hne k (fun e=>?_)]
  ·exact h.old k hk hf
  ·subst e
   rcases h.lo _ hbm with h1|h1
   ·exact absurd hk (by simpa using h1)
   ·exact hf h1
 ·by_cases e:p.1=b
  ·have:p=(b,o'):=by
    rcases u.new p hp with h1|h1
    ·exact h1
    ·have nd':(sg'.flatten.map Prod.fst).Nodup:=by rw[u.ids];exact h.nd
     have hm:(b,o')∈sg'.flatten:=by
      clear hb hne hsz hout ht hos hp h1 e nd' h hbm
      induction u with
      |here=>simp
      |inner _ ih=>simp only[List.flatten_cons,List.mem_append] at ih⊢;rcases ih with h|h<;>simp[h]
      |there _ ih=>simp only[List.flatten_cons,List.mem_append];exact .inr ih
     exact nodup_fst nd' hp hm e
   rw[this];exact hb
  ·rw[hne _ e];exact h.own p (u.old h.nd p hp e)
 ·have:p.1∈sg.flatten.map Prod.fst:=by rw[← u.ids];exact List.mem_map.2 ⟨p,hp,rfl⟩
  obtain⟨q,hq,e⟩:=List.mem_map.1 this
  rw[← e];exact h.lo q hq
inductive Ext (s:Seg):Sg→Sg→Prop
 |here {r:Sg}:Ext s (s::r) r
 |there {t:Seg} {r r':Sg}:Ext s r r'→Ext s (t::r) (t::r')
theorem Ext.perm {s:Seg}{sg r:Sg}(h:Ext s sg r):sg.Perm (s::r):=by
 induction h with
 |here=>exact .refl _
 |there _ ih=>exact(List.Perm.cons _ ih).trans (.swap ..)
inductive Pick:Sg→Sg→Sg→Prop
 |nil {sg:Sg}:Pick [] sg sg
 |cons {s:Seg} {ss sg r r':Sg}:Ext s sg r→Pick ss r r'→Pick (s::ss) sg r'
theorem Pick.perm {ss sg r:Sg}(h:Pick ss sg r):sg.Perm (ss++r):=by
 induction h with
 |nil=>exact .refl _
 |cons e _ ih=>exact e.perm.trans (List.Perm.cons _ ih)
theorem Pick.perm' {ss sg r:Sg}(h:Pick ss sg r):sg.flatten.Perm (ss.flatten++r.flatten):=by
 have:=h.perm.flatten
 rwa [List.flatten_append] at this
theorem Hp.perm {B:Base}{sg sg':Sg}{w:World}(h:Hp B sg w)(hp:sg.flatten.Perm sg'.flatten):Hp B sg' w:=
 ⟨h.os,h.tape,h.output,h.size,h.old,fun p hm=>h.own p (hp.symm.mem_iff.1 hm),fun p hm=>h.lo p (hp.symm.mem_iff.1 hm),(hp.map _).nodup_iff.1 h.nd⟩
theorem Hp.left {B:Base}{ss r:Sg}{w:World}(h:Hp B (ss++r) w):Hp B ss w:=by
 have nd:=h.nd
 simp only[List.flatten_append,List.map_append,List.nodup_append] at nd
 exact⟨h.os,h.tape,h.output,h.size,h.old,fun p hm=>h.own p (by simp only[List.flatten_append,List.mem_append];exact .inl hm),fun p hm=>h.lo p (by simp only[List.flatten_append,List.mem_append];exact .inl hm),nd.1⟩
theorem Hp.pick {B:Base}{ss sg r:Sg}{w:World}(h:Hp B sg w)(hp:Pick ss sg r):Hp B ss w:=
 (h.perm (by rw[List.flatten_append];exact hp.perm'):Hp B (ss++r) w).left
theorem Sat.pick {ss sg r:Sg}{w:World}(h:Sat sg w)(hp:Pick ss sg r):Sat ss w:=by
 have hq:=hp.perm'
 have nd:=(hq.map Prod.fst).nodup_iff.1 h.nd
 simp only[List.map_append,List.nodup_append] at nd
 exact⟨fun p hm=>h.own p (hq.mem_iff.2 (List.mem_append.2 (.inl hm))),nd.1⟩
theorem Hp.call {B:Base}{ss sg r so:Sg}{w w':World}(h:Hp B sg w)(hp:Pick ss sg r)(hc:Hp ⟨w,ids ss⟩ so w'):Hp B (so++r) w':=by
 have hq:=hp.perm'
 have nd:=(hq.map Prod.fst).nodup_iff.1 h.nd
 simp only[List.map_append] at nd
 have ndr:=(List.nodup_append.1 nd)
 have hF:∀b∈ids ss,B.w.heap.size≤b∨b∈B.F:=fun b hb=>by
  obtain⟨p,hm,rfl⟩:=List.mem_map.1 hb
  exact h.lo p (hq.mem_iff.2 (List.mem_append.2 (.inl hm)))
 have hr:∀p∈r.flatten,p.1∉ids ss:=fun p hm hc=>ndr.2.2 p.1 hc p.1 (List.mem_map.2 ⟨p,hm,rfl⟩) rfl
 have hr':∀p∈r.flatten,w.heap[p.1]? =some p.2:=fun p hm=>h.own p (hq.mem_iff.2 (List.mem_append.2 (.inr hm)))
 refine⟨hc.os.trans h.os,hc.tape.trans h.tape,hc.output.trans h.output,Nat.le_trans h.size hc.size,fun b hb hf=>?_,fun p hm=>?_,fun p hm=>?_,?_⟩
 ·refine(hc.old b (Nat.lt_of_lt_of_le hb h.size) (fun hin=>?_)).trans (h.old b hb hf)
  rcases hF b hin with h1|h1
  ·omega
  ·exact hf h1
 ·simp only[List.flatten_append,List.mem_append] at hm
  rcases hm with hm|hm
  ·exact hc.own p hm
  ·exact(hc.old p.1 (lt_of_some (hr' p hm)) (hr p hm)).trans (hr' p hm)
 ·simp only[List.flatten_append,List.mem_append] at hm
  rcases hm with hm|hm
  ·rcases hc.lo p hm with h1|h1
   ·exact .inl (Nat.le_trans h.size h1)
   ·exact hF _ h1
  ·exact h.lo p (hq.mem_iff.2 (List.mem_append.2 (.inr hm)))
 ·simp only[List.flatten_append,List.map_append,List.nodup_append]
  refine⟨hc.nd,ndr.2.1,fun x hx y hy e=>?_⟩
  subst e
  obtain⟨p,hm,rfl⟩:=List.mem_map.1 hx
  obtain⟨q,hm',e'⟩:=List.mem_map.1 hy
  rcases hc.lo p hm with h1|h1
  ·have:=lt_of_some (hr' q hm')
   simp only at h1
   omega
  ·exact hr q hm' (e'▸h1)
theorem Hp.call_ro {B:Base}{sg:Sg}{w w':World}(h:Hp B sg w)(hc:Below w.heap.size w w'):Hp B sg w':=
 h.call (ss:=[]) (so:=[]) .nil ⟨hc.os,hc.tape,hc.output,hc.size,fun b hb _=>hc.block b hb,fun _ hm=>by simp at hm,fun _ hm=>by simp at hm,by simp⟩
section
variable (P:Program)(n:Nat)(B:Base)
def CW (Q:Exit→Act→World→Prop)(c:Code)(ks:Ks)(sg:Sg):Prop:=∀a w,Fr n ks a→Hp B sg w→c.wp P Q a w
def LW (ops:Array Oper)(Q:Exit→Act→World→Prop)(l:List Oper)(ks:Ks)(sg:Sg):Prop:=∀a w,Fr n ks a→Hp B sg w→wpList P ops Q l a w
def PQ (Q:Exit→Act→World→Prop)(e:Exit)(ks:Ks)(sg:Sg):Prop:=∀a w,Fr n ks a→Hp B sg w→Q e a w
end
section
variable {P:Program}{n:Nat}{B:Base}{Q:Exit→Act→World→Prop}{ks:Ks}{sg:Sg}{ops:Array Oper}
theorem CW.seq {x y:Code}(h:CW P n B (Exit.then (y.wp P Q) Q) x ks sg):CW P n B Q (.seq x y) ks sg:=fun a w ha hw=>wp_seq (h a w ha hw)
theorem CW.skip (h:PQ n B Q .normal ks sg):CW P n B Q .skip ks sg:=fun a w ha hw=>wp_skip (h a w ha hw)
theorem CW.ret (h:PQ n B Q .ret ks sg):CW P n B Q .ret ks sg:=fun a w ha hw=>wp_ret (h a w ha hw)
theorem CW.exit {id:Nat}(h:PQ n B Q (.exit id) ks sg):CW P n B Q (.exit id) ks sg:=fun a w ha hw=>wp_exit (h a w ha hw)
theorem CW.block {id:Nat}{c:Code}(h:CW P n B (Exit.inBlock id Q) c ks sg):CW P n B Q (.block id c) ks sg:=fun a w ha hw=>wp_block (h a w ha hw)
theorem CW.scope {c:Code}(h:CW P n B (Exit.noGoto Q) c ks sg):CW P n B Q (.scope c) ks sg:=fun a w ha hw=>wp_scope_straight (h a w ha hw)
theorem CW.label {l:Nat}(h:PQ n B Q .normal ks sg):CW P n B Q (.label l) ks sg:=fun a w ha hw=>wp_label (h a w ha hw)
theorem CW.region {id:Nat}{l:List Oper}(h:LW P n B l.toArray Q l ks sg):CW P n B Q (.region id l.toArray false) ks sg:=fun a w ha hw=>wp_region_lit (h a w ha hw)
theorem CW.cond {c:Operand}{x y:Code}{t:Bool}(hc:ev ks c=some (.bool t))(h1:t=true→CW P n B Q x ks sg)(h2:t=false→CW P n B Q y ks sg):CW P n B Q (.cond c x y) ks sg:=
 fun a w ha hw=>wp_cond_split (ha.ev hc) (fun e=>h1 e a w ha hw) (fun e=>h2 e a w ha hw)
theorem CW.cond_t {c:Operand}{x y:Code}(hc:ev ks c=some (.bool true))(h1:CW P n B Q x ks sg):CW P n B Q (.cond c x y) ks sg:=
 fun a w ha hw=>wp_cond_true (ha.ev hc) (h1 a w ha hw)
theorem CW.cond_f {c:Operand}{x y:Code}(hc:ev ks c=some (.bool false))(h1:CW P n B Q y ks sg):CW P n B Q (.cond c x y) ks sg:=
 fun a w ha hw=>wp_cond_false (ha.ev hc) (h1 a w ha hw)
theorem CW.loop {γ:Type}{c:Code}{r:Sg}(K:γ→Ks)(G:γ→Sg)(J:γ→Prop)(μ:γ→Nat)(x0:γ)(hj:J x0)(hk:subK (K x0) ks)(hg:Pick (G x0) sg r)
 (round:∀x,J x→CW P n B (Exit.then (fun a w=>∃x',J x'∧μ x'<μ x∧Fr n (K x') a∧Hp B (G x') w) Q) c (K x) (G x)):CW P n B Q (.loop c) ks sg:=fun a w ha hw=>by
 refine wp_loop_ghost (fun m a w=>∃x,μ x=m∧J x∧Fr n (K x) a∧Hp B (G x) w) (μ x0) ⟨x0,rfl,hj,ha.sub hk,hw.pick hg⟩ ?_
 rintro m a w ⟨x,rfl,hJ,ha,hw⟩
 refine Code.wp_mono (fun e a w q=>?_) (round x hJ a w ha hw)
 cases e with
 |normal=>obtain⟨x',h1,h2,h3,h4⟩:=q;exact⟨_,h2,x',rfl,h1,h3,h4⟩
 |_=>exact q
theorem PQ.round {γ:Type}{K:γ→Ks}{G:γ→Sg}{J:γ→Prop}{μ:γ→Nat}{m:Nat}{r:Sg}(x':γ)(hj:J x')(hm:μ x'<m)(hk:subK (K x') ks)(hg:Pick (G x') sg r):
 PQ n B (Exit.then (fun a w=>∃x',J x'∧μ x'<m∧Fr n (K x') a∧Hp B (G x') w) Q) .normal ks sg:=fun a w ha hw=>⟨x',hj,hm,ha.sub hk,hw.pick hg⟩
theorem PQ.seq {y:Code}(h:CW P n B Q y ks sg):PQ n B (Exit.then (y.wp P Q) Q) .normal ks sg:=h
theorem PQ.then_exit {K:Act→World→Prop}{id:Nat}(h:PQ n B Q (.exit id) ks sg):PQ n B (Exit.then K Q) (.exit id) ks sg:=h
theorem PQ.then_ret {K:Act→World→Prop}(h:PQ n B Q .ret ks sg):PQ n B (Exit.then K Q) .ret ks sg:=h
theorem PQ.in_normal {id:Nat}(h:PQ n B Q .normal ks sg):PQ n B (Exit.inBlock id Q) .normal ks sg:=h
theorem PQ.in_ret {id:Nat}(h:PQ n B Q .ret ks sg):PQ n B (Exit.inBlock id Q) .ret ks sg:=h
theorem PQ.in_here {id:Nat}(h:PQ n B Q .normal ks sg):PQ n B (Exit.inBlock id Q) (.exit id) ks sg:=fun a w ha hw=>by
 simp only[Exit.inBlock,if_true];exact h a w ha hw
theorem PQ.in_out {id id':Nat}(hne:Nat.beq id' id=false)(h:PQ n B Q (.exit id') ks sg):PQ n B (Exit.inBlock id Q) (.exit id') ks sg:=fun a w ha hw=>by
 have:¬id'=id:=fun e=>by subst e;simp at hne
 simp only[Exit.inBlock,this,if_false];exact h a w ha hw
theorem getD_of {tmps:Array Value}{t:Nat}{v:Value}(h:tmps[t]? =some v):tmps.getD t undef=v:=by simp[h]
theorem PQ.ret0 {fn:Func}{R:Ending→World→Prop}(hr:fn.results=#[])(h:∀w,Hp B sg w→R (.returned (.tuple #[])) w):PQ n B (bodyPost P fn R) .ret ks sg:=
 fun a w ha hw=>bodyPost_ret (results_none hr _ _ _) ha.defers (h w hw)
theorem PQ.end0 {fn:Func}{R:Ending→World→Prop}(hr:fn.results=#[])(h:∀w,Hp B sg w→R (.returned (.tuple #[])) w):PQ n B (bodyPost P fn R) .normal ks sg:=
 fun a w ha hw=>bodyPost_end (results_none hr _ _ _) ha.defers (h w hw)
theorem PQ.ret1 {fn:Func}{R:Ending→World→Prop}{t:Nat}{v:Value}(hr:fn.results=#[.tmp t])(hv:look ks t=some v)(h:∀w,Hp B sg w→R (.returned v) w):PQ n B (bodyPost P fn R) .ret ks sg:=
 fun a w ha hw=>bodyPost_ret (by rw[results_tmp hr,getD_of (ha.at_ _ _ hv)]) ha.defers (h w hw)
theorem PQ.ret2 {fn:Func}{R:Ending→World→Prop}{t u:Nat}{v x:Value}(hr:fn.results=#[.tmp t,.tmp u])(hv:look ks t=some v)(hx:look ks u=some x)(h:∀w,Hp B sg w→R (.returned (.tuple #[v,x])) w):PQ n B (bodyPost P fn R) .ret ks sg:=
 fun a w ha hw=>bodyPost_ret (by rw[results_tmp2 hr,getD_of (ha.at_ _ _ hv),getD_of (ha.at_ _ _ hx)]) ha.defers (h w hw)
theorem PQ.ret3 {fn:Func}{R:Ending→World→Prop}{t u s:Nat}{v x y:Value}(hr:fn.results=#[.tmp t,.tmp u,.tmp s])(hv:look ks t=some v)(hx:look ks u=some x)(hy:look ks s=some y)(h:∀w,Hp B sg w→R (.returned (.tuple #[v,x,y])) w):PQ n B (bodyPost P fn R) .ret ks sg:=
 fun a w ha hw=>bodyPost_ret (by rw[results_tmp3 hr,getD_of (ha.at_ _ _ hv),getD_of (ha.at_ _ _ hx),getD_of (ha.at_ _ _ hy)]) ha.defers (h w hw)
theorem PQ.ret_of {fn:Func}{R:Ending→World→Prop}{v:Value}(hv:∀a w,Fr n ks a→Hp B sg w→(results fn a.tmps).run P w= .ok v w)(h:∀w,Hp B sg w→R (.returned v) w):PQ n B (bodyPost P fn R) .ret ks sg:=
 fun a w ha hw=>bodyPost_ret (hv a w ha hw) ha.defers (h w hw)
def initK:Nat→List Value→Ks
 |_,[]=>[]
 |i,v::r=>(i,v)::initK (i+1) r
theorem look_initK:∀(l:List Value) (i j:Nat) (v:Value),look (initK i l) j=some v→∃k,j=i+k∧l[k]? =some v
 |[],_,_,_,h=>by cases h
 |u::r,i,j,v,h=>by
  simp only[initK,look] at h
  by_cases e:i=j
  ·subst e;simp at h;subst h;exact⟨0,rfl,rfl⟩
  ·have:Nat.beq i j=false:=nbeq e
   rw[this] at h
   obtain⟨k,hk,hv⟩:=look_initK r (i+1) j v h
   exact⟨k+1,by omega,by simpa using hv⟩
theorem calls {f:FuncId}{fn:Func}{c:Code}{l:List Value}{w:World}{R:Ending→World→Prop}{m:Nat}(sg0:Sg)
 (hf:P.funcs[f]? =some fn)(hb:fn.body=some c)(hn:fn.ntmps=m)(hl:l.length≤m)(hs:Sat sg0 w)
 (h:CW P m ⟨w,ids sg0⟩ (bodyPost P fn R) c (initK 0 l) sg0):Calls P f l.toArray w R:=by
 refine calls_of_wp hf hb (h _ w ⟨rfl,?_,fun i v hi=>?_⟩ (Hp.start hs))
 ·simp[hn];omega
 ·obtain⟨k,rfl,hv⟩:=look_initK l 0 i v hi
  have hk:k<l.length:=(List.getElem?_eq_some_iff.1 hv).1
  simp only[Nat.zero_add]
  rw[Array.getElem?_append_left (by simpa using hk)]
  simpa using hv
theorem sat_nil (w:World):Sat [] w:=⟨fun _ h=>by simp at h,by simp⟩
end
section
variable (P:Program)(n:Nat)(B:Base)
def Val (o:Oper)(ks:Ks)(sg:Sg)(v:Value):Prop:=∀a w,Fr n ks a→Hp B sg w→(execOp a.eval o).run P w= .ok (.value v) w
def Eff {α:Type}(o:Oper)(ks:Ks)(sg:Sg)(φ:α→Prop)(v:α→Value)(sg':α→Sg):Prop:=
 ∀a w (K:Act→World→Prop) Q,Fr n ks a→Hp B sg w→(∀x w',φ x→Hp B (sg' x) w'→K (a.put o.dst (v x)) w')→o.wp P a w K Q
end
def gd (ops:Array Oper)(ks:Ks):Option (Nat×Bool)→Option Bool
 |none=>some true
 |some (j,want)=>match(ops[j]?).bind (·.dst) with
  |some d=>match look ks d with
   |some (.bool b)=>some (b==want)
   |some _=>some false
   |none=>none
  |none=>none
section
variable {P:Program}{n:Nat}{B:Base}{Q:Exit→Act→World→Prop}{ks:Ks}{sg:Sg}{ops:Array Oper}{o:Oper}{rest:List Oper}
theorem wanted_gd {a:Act}{b:Bool}(ha:Fr n ks a)(hg:gd ops ks o.guard=some b):Region.wanted o (yielded ops a.tmps)=b:=by
 unfold Region.wanted
 cases hgd:o.guard with
 |none=>rw[hgd] at hg;simpa[gd] using hg
 |some g=>
  obtain⟨j,want⟩:=g
  rw[hgd] at hg
  simp only[gd] at hg
  simp only[yielded]
  cases hd:(ops[j]?).bind (·.dst) with
  |none=>rw[hd] at hg;simp at hg
  |some d=>
   rw[hd] at hg
   simp only at hg
   cases hl:look ks d with
   |none=>rw[hl] at hg;simp at hg
   |some v=>
    rw[hl] at hg
    simp only[Option.bind_some,ha.at_ _ _ hl]
    cases v<;>simp only[Option.some.injEq] at hg<;>subst hg<;>first|rfl|(rename_i t;cases t<;>cases want<;>rfl)
theorem LW.nil (h:PQ n B Q .normal ks sg):LW P n B ops Q [] ks sg:=fun a w ha hw=>h a w ha hw
theorem LW.val {v:Value}(hg:gd ops ks o.guard=some true)(hd:dok n o.dst=true)(hv:Val P n B o ks sg v)(h:LW P n B ops Q rest (push ks o.dst v) sg):LW P n B ops Q (o::rest) ks sg:=
 fun a w ha hw=>wpList_step fun K hK=>by
  rw[if_pos (wanted_gd ha hg)]
  unfold Oper.wp
  rw[hv a w ha hw]
  exact hK _ _ (h _ w (ha.put hd v) hw)
theorem LW.pass (hg:gd ops ks o.guard=some false)(hd:dok n o.dst=true)(h:LW P n B ops Q rest (push ks o.dst undef) sg):LW P n B ops Q (o::rest) ks sg:=
 fun a w ha hw=>wpList_step fun K hK=>by
  rw[if_neg (by rw[wanted_gd ha hg];exact Bool.false_ne_true)]
  exact hK _ _ (h _ w (ha.put hd _) hw)
theorem LW.eff {α:Type}{φ:α→Prop}{v:α→Value}{sg':α→Sg}(hg:gd ops ks o.guard=some true)(hd:dok n o.dst=true)(he:Eff P n B o ks sg φ v sg')
 (h:∀x,φ x→LW P n B ops Q rest (push ks o.dst (v x)) (sg' x)):LW P n B ops Q (o::rest) ks sg:=
 fun a w ha hw=>wpList_step fun K hK=>by
  rw[if_pos (wanted_gd ha hg)]
  exact he a w K Q ha hw fun x w' hx hw'=>hK _ _ (h x hx _ w' (ha.put hd _) hw')
theorem LW.split {l:List Oper}{d:Nat}{t:Bool}(hl:look ks d=some (.bool t))(h1:t=true→LW P n B ops Q l ((d,.bool true)::ks) sg)(h2:t=false→LW P n B ops Q l ((d,.bool false)::ks) sg):LW P n B ops Q l ks sg:=
 fun a w ha hw=>by
  have key:Fr n ((d,.bool t)::ks) a:=⟨ha.defers,ha.size,fun i u hi=>by
   simp only[look] at hi
   by_cases e:d=i
   ·subst e;simp at hi;subst hi;exact ha.at_ _ _ hl
   ·rw[nbeq e] at hi;exact ha.at_ _ _ hi⟩
  cases t
  ·exact h2 rfl a w key hw
  ·exact h1 rfl a w key hw
def QW (P:Program)(n:Nat)(B:Base)(ops:Array Oper)(Q:Exit→Act→World→Prop)(sg:Sg)(l:List Oper)(ks:Ks):Prop:=
 ∀a,Fr n ks a→wpQuiet P ops (Hp B sg) (fun a'=>∀w',Hp B sg w'→Q .normal a' w') l a
theorem CW.quiet {id:Nat}{l:List Oper}(hm:P.follows .mixedOrders=true)(hB:Region.lexB .any l.toArray=true)(h:QW P n B l.toArray Q sg l ks):CW P n B Q (.region id l.toArray true) ks sg:=
 fun a w ha hw=>wp_region_quiet (C:=Hp B sg) hm hB hw.drew (by simpa using h a ha)
theorem QW.nil (h:PQ n B Q .normal ks sg):QW P n B ops Q sg [] ks:=fun a ha=>wpQuiet_nil fun w' hw'=>h a w' ha hw'
theorem QW.val {v:Value}(hg:gd ops ks o.guard=some true)(hd:dok n o.dst=true)(hv:Val P n B o ks sg v)(h:QW P n B ops Q sg rest (push ks o.dst v)):QW P n B ops Q sg (o::rest) ks:=
 fun a ha=>wpQuiet_step fun K hK=>by
  rw[if_pos (wanted_gd ha hg)]
  refine⟨v,fun w hw=>?_,hK _ (h _ (ha.put hd v))⟩
  unfold Oper.quietAt
  rw[hv a w ha hw]
  exact⟨rfl,rfl⟩
theorem QW.pass (hg:gd ops ks o.guard=some false)(hd:dok n o.dst=true)(h:QW P n B ops Q sg rest (push ks o.dst undef)):QW P n B ops Q sg (o::rest) ks:=
 fun a ha=>wpQuiet_step fun K hK=>by
  rw[if_neg (by rw[wanted_gd ha hg];exact Bool.false_ne_true)]
  exact hK _ (h _ (ha.put hd _))
theorem QW.split {l:List Oper}{d:Nat}{t:Bool}(hl:look ks d=some (.bool t))(h1:t=true→QW P n B ops Q sg l ((d,.bool true)::ks))(h2:t=false→QW P n B ops Q sg l ((d,.bool false)::ks)):QW P n B ops Q sg l ks:=
 fun a ha=>by
  have key:Fr n ((d,.bool t)::ks) a:=⟨ha.defers,ha.size,fun i u hi=>by
   simp only[look] at hi
   by_cases e:d=i
   ·subst e;simp at hi;subst hi;exact ha.at_ _ _ hl
   ·rw[nbeq e] at hi;exact ha.at_ _ _ hi⟩
  cases t
  ·exact h2 rfl a key
  ·exact h1 rfl a key
def Qcall (P:Program)(n:Nat)(B:Base)(o:Oper)(ks:Ks)(sg:Sg)(v:Value):Prop:=
 ∀a w,Fr n ks a→Hp B sg w→∃f args,(execOp a.eval o).run P w= .ok (.enter f args) w∧Calls P f args w (fun e w'=>e= .returned v∧Below w.heap.size w w')
theorem QW.call {v:Value}(hg:gd ops ks o.guard=some true)(hd:dok n o.dst=true)(hv:Qcall P n B o ks sg v)(h:QW P n B ops Q sg rest (push ks o.dst v)):QW P n B ops Q sg (o::rest) ks:=
 fun a ha=>wpQuiet_step fun K hK=>by
  rw[if_pos (wanted_gd ha hg)]
  refine⟨v,fun w hw=>?_,hK _ (h _ (ha.put hd v))⟩
  obtain⟨f,args,hr,hc⟩:=hv a w ha hw
  unfold Oper.quietAt
  rw[hr]
  exact⟨rfl,hc.mono fun e w' ⟨he,hb⟩=>⟨he,hw.call_ro hb⟩⟩
def RW (P:Program)(n:Nat)(B:Base)(ops:Array Oper)(Q:Exit→Act→World→Prop)(S:Sg)(fuel:Nat)(listed:Array Bool)(ks:Ks)(sg:Sg):Prop:=
 ∀a w,Fr n ks a→Hp B sg w→Hp B S w→wpAnyH P .any ops Q (Hp B S) fuel listed a w
theorem CW.drawn {id:Nat}{l:List Oper}{r:Sg}(S:Sg)(hm:P.follows .mixedOrders=true)(hp:Pick S sg r)(h:RW P n B l.toArray Q S l.length (Array.replicate l.length false) ks sg):CW P n B Q (.region id l.toArray true) ks sg:=
 fun a w ha hw=>wp_region_held (S:=Hp B S) hm (by simpa using h a _ ha hw.drew (hw.drew.pick hp))
theorem RW.take {S:Sg}{fuel:Nat}{listed:Array Bool}{v:Value}(i:Nat)(hi:ops[i]? =some o)(hs:Region.noSelect ops=true)(hf:Region.free .any ops listed i=true)(hr:(Region.ready .any ops listed).contains i=true)
 (hQ:∀c a w,Q (.panic c) (a.put o.dst v) w→Q (.panic c) a w)(hg:gd ops ks o.guard=some true)(hd:dok n o.dst=true)(hv:Val P n B o ks S v)
 (h:RW P n B ops Q S fuel (listed.setIfInBounds i true) (push ks o.dst v) sg):RW P n B ops Q S (fuel+1) listed ks sg:=
 fun a w ha hw hS=>wpAnyH_take hi hs hf hr hQ (.inl ⟨wanted_gd ha hg,fun w hw=>hv a w ha hw⟩) hS (h _ w (ha.put hd v) hw hS)
theorem RW.leave {S:Sg}{fuel:Nat}{listed:Array Bool}(i:Nat)(hi:ops[i]? =some o)(hs:Region.noSelect ops=true)(hf:Region.free .any ops listed i=true)(hr:(Region.ready .any ops listed).contains i=true)
 (hQ:∀c a w,Q (.panic c) (a.put o.dst undef) w→Q (.panic c) a w)(hg:gd ops ks o.guard=some false)(hd:dok n o.dst=true)
 (h:RW P n B ops Q S fuel (listed.setIfInBounds i true) (push ks o.dst undef) sg):RW P n B ops Q S (fuel+1) listed ks sg:=
 fun a w ha hw hS=>wpAnyH_take hi hs hf hr hQ (.inr ⟨wanted_gd ha hg,rfl⟩) hS (h _ w (ha.put hd _) hw hS)
theorem RW.eff {S:Sg}{fuel:Nat}{listed:Array Bool}{α:Type}{φ:α→Prop}{v:α→Value}{sg':α→Sg}(i:Nat)(hi:ops[i]? =some o)(hr:Region.ready .any ops listed=[i])
 (hg:gd ops ks o.guard=some true)(hd:dok n o.dst=true)(he:Eff P n B o ks sg φ v sg')(hS:∀x,∃r,Pick S (sg' x) r)
 (h:∀x,φ x→RW P n B ops Q S fuel (listed.setIfInBounds i true) (push ks o.dst (v x)) (sg' x)):RW P n B ops Q S (fuel+1) listed ks sg:=
 fun a w ha hw _=>wpAnyH_all hr (by simp) fun j hj=>by
  simp only[List.mem_singleton] at hj
  subst hj
  unfold wpOp
  simp only[hi]
  rw[if_pos (wanted_gd ha hg)]
  refine .inl (he a w _ _ ha hw fun x w' hx hw'=>?_)
  obtain⟨r,hp⟩:=hS x
  exact⟨hw'.pick hp,h x hx _ w' (ha.put hd _) hw' (hw'.pick hp)⟩
def RO (P:Program)(n:Nat)(B:Base)(ops:Array Oper)(Q:Exit→Act→World→Prop)(S:Sg)(fuel:Nat)(listed:Array Bool)(ks:Ks)(sg:Sg)(i:Nat):Prop:=
 ∀a w,Fr n ks a→Hp B sg w→wpOp P ops Q i (fun a' w'=>Hp B S w'∧wpAnyH P .any ops Q (Hp B S) fuel (listed.setIfInBounds i true) a' w') a w
theorem RW.any {S:Sg}{fuel:Nat}{listed:Array Bool}(rs:List Nat)(hr:Region.ready .any ops listed=rs)(hne:rs≠[])
 (h:∀i∈rs,RO P n B ops Q S fuel listed ks sg i):RW P n B ops Q S (fuel+1) listed ks sg:=
 fun a w ha hw _=>wpAnyH_all hr hne fun j hj=>h j hj a w ha hw
theorem RO.eff {S:Sg}{fuel:Nat}{listed:Array Bool}{α:Type}{φ:α→Prop}{v:α→Value}{sg':α→Sg}{i:Nat}(hi:ops[i]? =some o)
 (hg:gd ops ks o.guard=some true)(hd:dok n o.dst=true)(he:Eff P n B o ks sg φ v sg')(hS:∀x,∃r,Pick S (sg' x) r)
 (h:∀x,φ x→RW P n B ops Q S fuel (listed.setIfInBounds i true) (push ks o.dst (v x)) (sg' x)):RO P n B ops Q S fuel listed ks sg i:=
 fun a w ha hw=>by
  unfold wpOp
  simp only[hi]
  rw[if_pos (wanted_gd ha hg)]
  refine .inl (he a w _ _ ha hw fun x w' hx hw'=>?_)
  obtain⟨r,hp⟩:=hS x
  exact⟨hw'.pick hp,h x hx _ w' (ha.put hd _) hw' (hw'.pick hp)⟩
theorem RW.done {S:Sg}{fuel:Nat}{listed:Array Bool}(hr:Region.ready .any ops listed=[])(h:PQ n B Q .normal ks sg):RW P n B ops Q S fuel listed ks sg:=
 fun a w ha hw _=>wpAnyH_done hr (h a w ha hw) fuel
theorem RW.split {S:Sg}{fuel:Nat}{listed:Array Bool}{d:Nat}{t:Bool}(hl:look ks d=some (.bool t))(h1:t=true→RW P n B ops Q S fuel listed ((d,.bool true)::ks) sg)(h2:t=false→RW P n B ops Q S fuel listed ((d,.bool false)::ks) sg):RW P n B ops Q S fuel listed ks sg:=
 fun a w ha hw hS=>by
  have key:Fr n ((d,.bool t)::ks) a:=⟨ha.defers,ha.size,fun i u hi=>by
   simp only[look] at hi
   by_cases e:d=i
   ·subst e;simp at hi;subst hi;exact ha.at_ _ _ hl
   ·rw[nbeq e] at hi;exact ha.at_ _ _ hi⟩
  cases t
  ·exact h2 rfl a w key hw hS
  ·exact h1 rfl a w key hw hS
end
section
variable {P:Program}{n:Nat}{B:Base}{ks:Ks}{sg:Sg}{d:Option Tmp}{ty:TypeId}{pos:String}{aft:Array Edge}{g:Option (Nat×Bool)}
theorem run_value {s:Sem Value}{v:Value}{w w':World}(h:s.run P w= .ok v w'):(do pure (Next.value (← s)):Sem Next).run P w= .ok (.value v) w':=by
 rw[Sem.run_bind,h];rfl
theorem Val.move {x:Operand}{v:Value}(hx:ev ks x=some v):Val P n B ⟨d,.move x,ty,pos,aft,g⟩ ks sg v:=fun a w ha hw=>by
 show(Sem.pure (Next.value (a.eval x))).run P w=_
 rw[ha.ev hx];rfl
theorem Val.assign {x:Operand}{v:Value}(hx:ev ks x=some v):Val P n B ⟨d,.assign x,ty,pos,aft,g⟩ ks sg v:=fun a w ha hw=>by
 show(Sem.pure (Next.value (a.eval x))).run P w=_
 rw[ha.ev hx];rfl
theorem Val.pick_t {c x y:Operand}{v:Value}(hc:ev ks c=some (.bool true))(hx:ev ks x=some v):Val P n B ⟨d,.pick c x y,ty,pos,aft,g⟩ ks sg v:=fun a w ha hw=>by
 show(do pure (Next.value (if ← asBool (a.eval c) then a.eval x else a.eval y)):Sem Next).run P w=_
 rw[ha.ev hc,ha.ev hx];rfl
theorem Val.pick_f {c x y:Operand}{v:Value}(hc:ev ks c=some (.bool false))(hx:ev ks y=some v):Val P n B ⟨d,.pick c x y,ty,pos,aft,g⟩ ks sg v:=fun a w ha hw=>by
 show(do pure (Next.value (if ← asBool (a.eval c) then a.eval x else a.eval y)):Sem Next).run P w=_
 rw[ha.ev hc,ha.ev hx];rfl
theorem Val.not {t:TypeId}{x:Operand}{b:Bool}(hx:ev ks x=some (.bool b)):Val P n B ⟨d,.unOp .not t x,ty,pos,aft,g⟩ ks sg (.bool (!b)):=fun a w ha hw=>by
 show(do pure (Next.value (← Op.unary .not (a.eval x))):Sem Next).run P w=_
 rw[ha.ev hx];rfl
theorem Val.bin {op:BinOp}{t t':TypeId}{x y:Operand}{vx vy v:Value}(hx:ev ks x=some vx)(hy:ev ks y=some vy)
 (hr:∀w,(do eqGuard op t x y vx vy;Go.binOp op t vx vy:Sem Value).run P w= .ok v w):Val P n B ⟨d,.binOp op t x y t',ty,pos,aft,g⟩ ks sg v:=fun a w ha hw=>by
 show(do pure (Next.value (← (do eqGuard op t x y (a.eval x) (a.eval y);Go.binOp op t (a.eval x) (a.eval y)))):Sem Next).run P w=_
 rw[ha.ev hx,ha.ev hy]
 exact run_value (hr w)
def cmpI:BinOp→Int→Int→Option Bool
 | .eql,a,b=>some (a==b)
 | .neq,a,b=>some (a !=b)
 | .lss,a,b=>some (decide (a<b))
 | .leq,a,b=>some (decide (a≤b))
 | .gtr,a,b=>some (decide (b<a))
 | .geq,a,b=>some (decide (b≤a))
 |_,_,_=>none
theorem Val.cmp {op:BinOp}{t t':TypeId}{x y:Operand}{k:IntKind}{i j:Int}{r:Bool}(hx:ev ks x=some (.int k i))(hy:ev ks y=some (.int k j))(hc:cmpI op i j=some r):
 Val P n B ⟨d,.binOp op t x y t',ty,pos,aft,g⟩ ks sg (.bool r):=Val.bin hx hy fun w=>by
 cases op<;>simp only[cmpI,Option.some.injEq,reduceCtorEq] at hc<;>subst hc<;>simp[eqGuard,Go.binOp,Op.intCmp]
def arI:BinOp→Int→Int→Option Int
 | .add,a,b=>some (a+b)
 | .sub,a,b=>some (a-b)
 | .mul,a,b=>some (a*b)
 |_,_,_=>none
theorem Val.ar {op:BinOp}{t t':TypeId}{x y:Operand}{k:IntKind}{i j r:Int}(hx:ev ks x=some (.int k i))(hy:ev ks y=some (.int k j))(hc:arI op i j=some r)(hin:k.wrap r=r):
 Val P n B ⟨d,.binOp op t x y t',ty,pos,aft,g⟩ ks sg (.int k r):=Val.bin hx hy fun w=>by
 cases op<;>simp only[arI,Option.some.injEq,reduceCtorEq] at hc<;>subst hc<;>simp[eqGuard,Go.binOp,Op.intArith,hin]
theorem Val.arw {op:BinOp}{t t':TypeId}{x y:Operand}{k:IntKind}{i j r:Int}(hx:ev ks x=some (.int k i))(hy:ev ks y=some (.int k j))(hc:arI op i j=some r):
 Val P n B ⟨d,.binOp op t x y t',ty,pos,aft,g⟩ ks sg (.int k (k.wrap r)):=Val.bin hx hy fun w=>by
 cases op<;>simp only[arI,Option.some.injEq,reduceCtorEq] at hc<;>subst hc<;>simp[eqGuard,Go.binOp,Op.intArith]
theorem run_equalB {t:TypeId}{i j:Bool}(hu:P.underlying t=some .bool)(w:World):(Op.equal t (.bool i) (.bool j)).run P w= .ok (i==j) w:=run_equalIn_bool' w 9999 t i j hu
theorem Val.eqB {t t':TypeId}{x y:Operand}{i j:Bool}(hx:ev ks x=some (.bool i))(hy:ev ks y=some (.bool j))(hu:P.underlying t=some .bool):
 Val P n B ⟨d,.binOp .eql t x y t',ty,pos,aft,g⟩ ks sg (.bool (i==j)):=Val.bin hx hy fun w=>by
 show(do eqGuard .eql t x y (.bool i) (.bool j);(do pure (Value.bool (← Op.equal t (.bool i) (.bool j)))):Sem Value).run P w=_
 have h1:(eqGuard .eql t x y (.bool i) (.bool j)).run P w= .ok () w:=rfl
 simp only[Sem.run_bind,h1,run_equalB hu,Sem.run_pure,Result.andThen_ok]
def cmpS:BinOp→ByteArray→ByteArray→Option Bool
 | .eql,a,b=>some (decide (a=b))
 | .neq,a,b=>some (!decide (a=b))
 | .lss,a,b=>some (Op.bytesLess a.toList b.toList)
 | .leq,a,b=>some (Op.bytesLess a.toList b.toList||decide (a=b))
 | .gtr,a,b=>some (!(Op.bytesLess a.toList b.toList||decide (a=b)))
 | .geq,a,b=>some (!Op.bytesLess a.toList b.toList)
 |_,_,_=>none
theorem toList_beq (a b:ByteArray):(a.toList==b.toList)=decide (a=b):=by
 rw[← beq_toListBytes]
 by_cases h:a=b
 ·subst h;simp[beq_toListBytes]
 ·have h2:(a==b)=false:=by
   rw[beq_toListBytes]
   simp only[beq_eq_false_iff_ne,ne_eq]
   intro e
   rw[ByteArray.toList_eq,ByteArray.toList_eq] at e
   obtain⟨⟨x⟩⟩:=a;obtain⟨⟨y⟩⟩:=b
   simp at e
   exact h (by rw[e])
  simp[h2,h]
theorem Val.cmpS {op:BinOp}{t t':TypeId}{x y:Operand}{i j:ByteArray}{r:Bool}(hx:ev ks x=some (.string i))(hy:ev ks y=some (.string j))(hc:V.cmpS op i j=some r):
 Val P n B ⟨d,.binOp op t x y t',ty,pos,aft,g⟩ ks sg (.bool r):=Val.bin hx hy fun w=>by
 cases op<;>simp only[V.cmpS,Option.some.injEq,reduceCtorEq] at hc<;>subst hc<;>simp[eqGuard,Go.binOp,Op.stringOp,toList_beq]
theorem Val.cat {t t':TypeId}{x y:Operand}{i j:ByteArray}(hx:ev ks x=some (.string i))(hy:ev ks y=some (.string j))(hs:i.size+j.size≤9223372036854775807):
 Val P n B ⟨d,.binOp .add t x y t',ty,pos,aft,g⟩ ks sg (.string (i++j)):=Val.bin hx hy fun w=>by
 have hm:IntKind.i64.max=9223372036854775807:=by decide
 have:¬((i.size+j.size:Nat):Int)>IntKind.i64.max:=by rw[hm];omega
 simp only[eqGuard,Go.binOp,Op.stringOp,this,if_false]
 rfl
theorem Val.fieldAddr {s:TypeId}{x:Operand}{i:Nat}{fs:Array Field}{f:Field}{b o sz:Nat}(off:Nat)(hx:ev ks x=some (.pointer (some ⟨b,o,none⟩)))(hu:P.underlying s=some (.struct fs))(hf:fs[i]? =some f)(hoff:f.offset=off)
 (hs:∀w,(sizeOf f.type).run P w= .ok (sz+1) w):Val P n B ⟨d,.fieldAddr s x i,ty,pos,aft,g⟩ ks sg (.pointer (some ⟨b,o+off,none⟩)):=fun a w ha hw=>by
 subst hoff
 show(do pure (Next.value (← Instr.fieldAt s (a.eval x) i)):Sem Next).run P w=_
 rw[ha.ev hx]
 refine run_value ?_
 simp[Instr.fieldAt,Sem.run_bind,run_underlying hu,hf,Instr.sureAddr,fieldPlace,hs,Addr.add_mid]
theorem Val.indexAddr {t e:TypeId}{x y:Operand}{k:IntKind}{i:Int}{b o m c sz:Nat}(hx:ev ks x=some (.slice (some ⟨b,o,none⟩) m c))(hy:ev ks y=some (.int k i))(hu:P.underlying t=some (.slice e))
 (hs:∀w,(sizeOf e).run P w= .ok sz w)(h0:0≤i)(h1:i<m):Val P n B ⟨d,.indexAddr t x y,ty,pos,aft,g⟩ ks sg (.pointer (some ⟨b,o+i.toNat*sz,none⟩)):=fun a w ha hw=>by
 show(do pure (Next.value (← Instr.indexAt t (a.eval x) (a.eval y))):Sem Next).run P w=_
 rw[ha.ev hx,ha.ev hy]
 refine run_value ?_
 simp[Instr.indexAt,asIntOf,Sem.run_bind,run_underlying hu,hs,h0,h1,Addr.add_mid]
theorem Val.indexAddrN {t e:TypeId}{x y:Operand}{k:IntKind}{i b o m c sz:Nat}(hx:ev ks x=some (.slice (some ⟨b,o,none⟩) m c))(hy:ev ks y=some (.int k (i:Nat)))(hu:P.underlying t=some (.slice e))
 (hs:∀w,(sizeOf e).run P w= .ok sz w)(h1:i<m):Val P n B ⟨d,.indexAddr t x y,ty,pos,aft,g⟩ ks sg (.pointer (some ⟨b,o+i*sz,none⟩)):=by
 have:=Val.indexAddr (P:=P) (n:=n) (B:=B) (sg:=sg) (d:=d) (ty:=ty) (pos:=pos) (aft:=aft) (g:=g) hx hy hu hs (by omega) (by omega)
 rwa [Int.toNat_natCast] at this
theorem Val.lenSl {x:Operand}{t:TypeId}{e:TypeId}{p:Option Addr}{m c:Nat}(hx:ev ks x=some (.slice p m c))(hu:P.underlying t=some (.slice e)):Val P n B ⟨d,.call {callee:= .builtin .len,args:=#[x],argTypes:=#[t]},ty,pos,aft,g⟩ ks sg (.int .i64 (m:Nat)):=fun a w ha hw=>by
 have e:=ha.ev hx
 simp[execOp,resolve,invoke,Go.builtin,Builtin.len_,e,goInt,run_underlying hu]
theorem Val.lenS {x:Operand}{t:TypeId}{s:ByteArray}(hx:ev ks x=some (.string s))(hu:P.underlying t=some .string):Val P n B ⟨d,.call {callee:= .builtin .len,args:=#[x],argTypes:=#[t]},ty,pos,aft,g⟩ ks sg (.int .i64 (s.size:Nat)):=fun a w ha hw=>by
 have e:=ha.ev hx
 simp[execOp,resolve,invoke,Go.builtin,Builtin.len_,e,goInt,run_underlying hu]
theorem Val.extract {x:Operand}{i:Nat}{vs:List Value}{v:Value}(hx:ev ks x=some (.tuple vs.toArray))(hi:vs[i]? =some v):Val P n B ⟨d,.extract x i,ty,pos,aft,g⟩ ks sg v:=fun a w ha hw=>by
 show(do pure (Next.value (← Instr.extract (a.eval x) i)):Sem Next).run P w=_
 rw[ha.ev hx]
 refine run_value ?_
 simp[Instr.extract,hi]
theorem Val.nilCheck {x:Operand}{p:Addr}(hx:ev ks x=some (.pointer (some p))):Val P n B ⟨d,.nilCheck x,ty,pos,aft,g⟩ ks sg (.pointer (some p)):=fun a w ha hw=>by
 have e:=ha.ev hx
 simp[execOp,e]
theorem cell_of_block {w:World}{b o:Nat}{l:List Value}{T:TypeId}{fr:Nat×Nat}{v:Value}(h:w.heap[b]? =some (.cells l.toArray T fr))(hl:l[o]? =some v):w.cell? ⟨b,o,none⟩=some v:=by
 simp[World.cell?,h,hl]
theorem run_loadVar_one {w:World}{t:TypeId}{a:Addr}{v:Value}(hc:w.cell? a=some v)(hg:∀w,(isAgg t).run P w= .ok false w):(loadVar t a).run P w= .ok v w:=by
 simp[loadVar,Sem.run_bind,hg,Go.load,Sem.run,hc]
theorem run_loadVar_many {w:World}{t:TypeId}{b o:Nat}{cs:List Value}(hc:w.rangeAt b o cs)(hg:∀w,(isAgg t).run P w= .ok true w)(hs:∀w,(sizeOf t).run P w= .ok cs.length w):
 (loadVar t ⟨b,o,none⟩).run P w= .ok (.agg cs.toArray) w:=by
 have hl:=run_loadCells_list (P:=P) w ⟨b,o,none⟩ cs (fun j v hv=>by rw[Addr.add_mid];exact hc j v hv)
 simp[loadVar,Sem.run_bind,hg,hs,hl]
theorem Val.load_of {t:TypeId}{x:Operand}{p:Addr}{v:Value}(hx:ev ks x=some (.pointer (some p)))(h:∀w,Hp B sg w→(loadVar t p).run P w= .ok v w):Val P n B ⟨d,.load t x,ty,pos,aft,g⟩ ks sg v:=fun a w ha hw=>by
 show(do pure (Next.value (← Instr.loadAt t (a.eval x))):Sem Next).run P w=_
 rw[ha.ev hx]
 refine run_value ?_
 simp[Instr.loadAt,Instr.sureAddr,h w hw]
theorem Val.load {t T:TypeId}{x:Operand}{b o:Nat}{fr:Nat×Nat}{l:List Value}{v:Value}(hx:ev ks x=some (.pointer (some ⟨b,o,none⟩)))(hg:∀w,(isAgg t).run P w= .ok false w)(hm:InS (b,.cells l.toArray T fr) sg)(hl:l[o]? =some v):
 Val P n B ⟨d,.load t x,ty,pos,aft,g⟩ ks sg v:=Val.load_of hx fun w hw=>run_loadVar_one (cell_of_block (hw.own _ hm.mem) hl) hg
theorem range_of_block {w:World}{b o:Nat}{l cs r:List Value}{T:TypeId}{fr:Nat×Nat}(h:w.heap[b]? =some (.cells l.toArray T fr))(hl:l.drop o=cs++r):w.rangeAt b o cs:=fun j v hv=>by
 refine cell_of_block h ?_
 have:(l.drop o)[j]? =some v:=by rw[hl,List.getElem?_append_left (List.getElem?_eq_some_iff.1 hv).1];exact hv
 rwa [List.getElem?_drop] at this
theorem Val.loadA {t T:TypeId}{x:Operand}{b o:Nat}{fr:Nat×Nat}{l:List Value}(cs:List Value){r:List Value}(hx:ev ks x=some (.pointer (some ⟨b,o,none⟩)))(hg:∀w,(isAgg t).run P w= .ok true w)(hm:InS (b,.cells l.toArray T fr) sg)(hl:l.drop o=cs++r)
 (hs:∀w,(sizeOf t).run P w= .ok cs.length w):Val P n B ⟨d,.load t x,ty,pos,aft,g⟩ ks sg (.agg cs.toArray):=Val.load_of hx fun w hw=>run_loadVar_many (range_of_block (hw.own _ hm.mem) hl) hg hs
theorem Val.loadW {t T:TypeId}{x:Operand}{b:Nat}{fr:Nat×Nat}{l:List Value}(hx:ev ks x=some (.pointer (some ⟨b,0,none⟩)))(hg:∀w,(isAgg t).run P w= .ok true w)(hm:InS (b,.cells l.toArray T fr) sg)
 (hs:∀w,(sizeOf t).run P w= .ok l.length w):Val P n B ⟨d,.load t x,ty,pos,aft,g⟩ ks sg (.agg l.toArray):=Val.loadA l (r:=[]) hx hg hm (by simp) hs
theorem Val.loadO {t:TypeId}{x:Operand}{b o:Nat}{v:Value}(hx:ev ks x=some (.pointer (some ⟨b,o,none⟩)))(hg:∀w,(isAgg t).run P w= .ok false w)(hb:b<B.w.heap.size)(hf:b∉B.F)(hc:B.w.cell? ⟨b,o,none⟩=some v):
 Val P n B ⟨d,.load t x,ty,pos,aft,g⟩ ks sg v:=Val.load_of hx fun w hw=>run_loadVar_one (by rw[World.cell?_of_block (w:=B.w) (hw.old b hb hf)];exact hc) hg
theorem Val.loadOA {t:TypeId}{x:Operand}{b o:Nat}{cs:List Value}(hx:ev ks x=some (.pointer (some ⟨b,o,none⟩)))(hg:∀w,(isAgg t).run P w= .ok true w)(hb:b<B.w.heap.size)(hf:b∉B.F)(hc:B.w.rangeAt b o cs)
 (hs:∀w,(sizeOf t).run P w= .ok cs.length w):Val P n B ⟨d,.load t x,ty,pos,aft,g⟩ ks sg (.agg cs.toArray):=
 Val.load_of hx fun w hw=>run_loadVar_many (fun j v hv=>by rw[World.cell?_of_block (w:=B.w) (hw.old b hb hf)];exact hc j v hv) hg hs
theorem Eff.new {o:Oper}{f:Nat→Value}{ob:Obj}(h:∀a w,Fr n ks a→Hp B sg w→(execOp a.eval o).run P w= .ok (.value (f w.heap.size)) {w with heap:=w.heap.push ob}):
 Eff P n B o ks sg (α:=Nat) (fun _=>True) f (fun b=>[(b,ob)]::sg):=fun a w K Q ha hw hk=>by
 unfold Oper.wp
 rw[h a w ha hw]
 exact hk w.heap.size _ trivial (hw.alloc ob)
theorem Eff.alloc {t:TypeId}{z:Value}(hz:∀w,(zeroValue t).run P w= .ok z w):Eff P n B ⟨d,.alloc t,ty,pos,aft,g⟩ ks sg (α:=Nat) (fun _=>True) (fun b=> .pointer (some ⟨b,0,none⟩)) (fun b=>[(b,.cells z.cells t (0,0))]::sg):=
 Eff.new fun a w ha hw=>by
  show(do pure (Next.value (← Instr.alloc t true (.tuple #[]))):Sem Next).run P w=_
  refine run_value ?_
  simp[Instr.alloc,Sem.run_bind,hz,newVar,newRow,newObj,Sem.run]
theorem Eff.box {t:TypeId}{x:Operand}{v:Value}(hx:ev ks x=some v):Eff P n B ⟨d,.box t x,ty,pos,aft,g⟩ ks sg (α:=Nat) (fun _=>True) (fun b=> .pointer (some ⟨b,0,none⟩)) (fun b=>[(b,.cells v.cells t (0,0))]::sg):=
 Eff.new fun a w ha hw=>by
  show(do pure (Next.value (← Instr.box t (a.eval x))):Sem Next).run P w=_
  rw[ha.ev hx]
  refine run_value ?_
  simp[Instr.box,newVar,newRow,newObj,Sem.run]
def splice:List Value→Nat→List Value→List Value
 |l,_,[]=>l
 |l,o,v::r=>splice (l.set o v) (o+1) r
theorem run_storeCells_splice (b:Nat)(T:TypeId):∀(cs l:List Value) (o i:Nat) (w:World),w.heap[b]? =some (.cells l.toArray T (0,0))→o+i+cs.length≤l.length→cs.all (·.oneCell')=true→
 ∃w',(storeCells ⟨b,o,none⟩ cs i).run P w= .ok () w'∧w'.os=w.os∧w'.tape=w.tape∧w'.output=w.output∧w'.heap.size=w.heap.size∧w'.heap[b]? =some (.cells (splice l (o+i) cs).toArray T (0,0))∧∀k,k≠b→w'.heap[k]? =w.heap[k]?
 |[],l,o,i,w,h,_,_=>⟨w,rfl,rfl,rfl,rfl,rfl,h,fun _ _=>rfl⟩
 |v::r,l,o,i,w,h,hlen,h1=>by
  simp only[List.all_cons,Bool.and_eq_true] at h1
  simp only[List.length_cons] at hlen
  have hc:w.cell? ⟨b,o+i,none⟩=some (l[o+i]'(by omega)):=cell_of_block h (by simp)
  have hf:w.frozen? ⟨b,o+i,none⟩=false:=by simp[World.frozen?,h]
  have hst:(Go.store (Addr.add ⟨b,o,none⟩ i) v).run P w= .ok () (w.setCell ⟨b,o+i,none⟩ v):=by
   rw[Addr.add_mid]
   have h11:=h1.1
   cases v<;>simp_all[Go.store,Sem.run,Value.oneCell']
  have hset:(w.setCell ⟨b,o+i,none⟩ v).heap[b]? =some (.cells (l.set (o+i) v).toArray T (0,0)):=by
   simp[World.setCell,Array.getElem?_modify,h]
  obtain⟨w',hr,e1,e2,e3,e4,e5,e6⟩:=run_storeCells_splice b T r (l.set (o+i) v) o (i+1) (w.setCell ⟨b,o+i,none⟩ v) hset (by simp;omega) h1.2
  refine⟨w',?_,e1,e2,e3,by simp[e4,World.setCell],by simpa[splice,Nat.add_assoc] using e5,fun k hk=>(e6 k hk).trans ?_⟩
  ·simp only[storeCells]
   rw[Sem.run_bind,hst]
   exact hr
  ·exact Below.heap_setCell _ _ _ _ hk
theorem Eff.store_of {t T:TypeId}{x y:Operand}{b o:Nat}{v:Value}{l l':List Value}{sg':Sg}(hx:ev ks x=some (.pointer (some ⟨b,o,none⟩)))(hy:ev ks y=some v)
 (hu:Upd b (.cells l.toArray T (0,0)) (.cells l'.toArray T (0,0)) sg sg')(hl:splice l o v.cells.toList=l')(hlen:o+v.cells.size≤l.length)(hs:∀w,(sizeOf t).run P w= .ok v.cells.size w)(h1:v.cells.toList.all (·.oneCell')=true):
 Eff P n B ⟨d,.store t x y,ty,pos,aft,g⟩ ks sg (α:=Unit) (fun _=>True) (fun _=>undef) (fun _=>sg'):=fun a w K Q ha hw hk=>by
 unfold Oper.wp
 show Oper.upon _ _ _ _ _ ((do Instr.storeAt t (a.eval x) (a.eval y);pure .skip:Sem Next).run P w)
 rw[ha.ev hx,ha.ev hy]
 obtain⟨w',hr,e1,e2,e3,e4,e5,e6⟩:=run_storeCells_splice (P:=P) b T v.cells.toList l o 0 w (hw.own _ hu.mem) (by simpa using hlen) h1
 have hrun:(do Instr.storeAt t (.pointer (some ⟨b,o,none⟩)) v;pure .skip:Sem Next).run P w= .ok .skip w':=by
  simp[Instr.storeAt,Instr.sureAddr,storeVar,Sem.run_bind,hs,hr]
 rw[hrun]
 refine hk () w' trivial (hw.upd hu e1 e2 e3 e4 ?_ e6)
 rw[← hl];simpa using e5
theorem Eff.store {t T:TypeId}{x y:Operand}{b o:Nat}{v:Value}{l l':List Value}{sg':Sg}(hx:ev ks x=some (.pointer (some ⟨b,o,none⟩)))(hy:ev ks y=some v)(h1:v.oneCell'=true)
 (hu:Upd b (.cells l.toArray T (0,0)) (.cells l'.toArray T (0,0)) sg sg')(hl:l.set o v=l')(hlen:Nat.blt o l.length=true)(hs:∀w,(sizeOf t).run P w= .ok 1 w):
 Eff P n B ⟨d,.store t x y,ty,pos,aft,g⟩ ks sg (α:=Unit) (fun _=>True) (fun _=>undef) (fun _=>sg'):=by
 have hv:v.cells=#[v]:=by cases v<;>first|rfl|cases h1
 have hlen':o<l.length:=by simpa[Nat.blt_eq] using hlen
 refine Eff.store_of hx hy hu ?_ (by rw[hv];simp;omega) (by rw[hv];exact hs) (by rw[hv];simpa using h1)
 rw[hv];simpa[splice] using hl
theorem splice_all:∀(cs p l:List Value),l.length=cs.length→splice (p++l) p.length cs=p++cs
 |[],p,l,h=>by cases l<;>simp_all[splice]
 |c::cs,p,l,h=>by
  cases l with
  |nil=>simp at h
  |cons x l=>
   simp only[splice,List.set_append_right _ _ (Nat.le_refl _),Nat.sub_self,List.set_cons_zero]
   have:=splice_all cs (p++[c]) l (by simpa using h)
   simpa using this
theorem Eff.storeW {t T:TypeId}{x y:Operand}{b:Nat}{l cs:List Value}{sg':Sg}(hx:ev ks x=some (.pointer (some ⟨b,0,none⟩)))(hy:ev ks y=some (.agg cs.toArray))
 (hu:Upd b (.cells l.toArray T (0,0)) (.cells cs.toArray T (0,0)) sg sg')(hlen:l.length=cs.length)(hs:∀w,(sizeOf t).run P w= .ok cs.length w)(h1:cs.all (·.oneCell')=true):
 Eff P n B ⟨d,.store t x y,ty,pos,aft,g⟩ ks sg (α:=Unit) (fun _=>True) (fun _=>undef) (fun _=>sg'):=by
 refine Eff.store_of hx hy hu ?_ (by simp[Value.cells,hlen]) (by simpa[Value.cells] using hs) (by simpa[Value.cells] using h1)
 have:=splice_all cs [] l hlen
 simpa[Value.cells] using this
def evs (ks:Ks):List Operand→Option (List Value)
 |[]=>some []
 |x::r=>match ev ks x with
  |some v=>match evs ks r with
   |some l=>some (v::l)
   |none=>none
  |none=>none
theorem Fr.evs {a:Act}(ha:Fr n ks a):∀{xs:List Operand} {vs:List Value},V.evs ks xs=some vs→xs.map a.eval=vs
 |[],vs,h=>by simp[V.evs] at h;simp[h]
 |x::r,vs,h=>by
  simp only[V.evs] at h
  cases hx:V.ev ks x with
  |none=>rw[hx] at h;simp at h
  |some v=>
   rw[hx] at h
   cases hr:V.evs ks r with
   |none=>rw[hr] at h;simp at h
   |some l=>rw[hr] at h;simp at h;subst h;simp[ha.ev hx,ha.evs hr]
theorem run_call {f:FuncId}{xs:List Operand}{vs:List Value}{ats:Array TypeId}{a:Act}(w:World)(ha:Fr n ks a)(hxs:evs ks xs=some vs)(hc:∀(args:Array Value) (w:World),(callFunc f args).run P w= .ok (.enter f args) w):
 (execOp a.eval ⟨d,.call {callee:= .value (.func f),args:=xs.toArray,argTypes:=ats},ty,pos,aft,g⟩).run P w= .ok (.enter f vs.toArray) w:=by
 have hm:=ha.evs hxs
 simp only[execOp,resolve,Act.eval,Deferred.ofValue,Sem.run_bind,Sem.run_pure,Result.andThen_ok,invoke,List.map_toArray,hm]
 simp[hc]
theorem Eff.call {α:Type}{φ:α→Prop}{v:α→Value}{sg':α→Sg}{f:FuncId}{xs:List Operand}{vs:List Value}{ats:Array TypeId}(hxs:evs ks xs=some vs)(hc:∀(args:Array Value) (w:World),(callFunc f args).run P w= .ok (.enter f args) w)
 (h:∀w,Hp B sg w→Calls P f vs.toArray w (fun e w'=>∃x,φ x∧e= .returned (v x)∧Hp B (sg' x) w')):
 Eff P n B ⟨d,.call {callee:= .value (.func f),args:=xs.toArray,argTypes:=ats},ty,pos,aft,g⟩ ks sg φ v sg':=fun a w K Q ha hw hk=>by
 unfold Oper.wp
 rw[run_call w ha hxs hc]
 exact(h w hw).mono fun e w' ⟨x,hx,he,hw'⟩=>by subst he;exact hk x w' hx hw'
theorem Eff.callR {α:Type}{φ:α→Prop}{v:α→Value}{f:FuncId}{xs:List Operand}{vs:List Value}{ats:Array TypeId}(hxs:evs ks xs=some vs)(hc:∀(args:Array Value) (w:World),(callFunc f args).run P w= .ok (.enter f args) w)
 (h:∀w,Hp B sg w→Calls P f vs.toArray w (fun e w'=>∃x,φ x∧e= .returned (v x)∧Below w.heap.size w w')):
 Eff P n B ⟨d,.call {callee:= .value (.func f),args:=xs.toArray,argTypes:=ats},ty,pos,aft,g⟩ ks sg φ v (fun _=>sg):=
 Eff.call hxs hc fun w hw=>(h w hw).mono fun e w' ⟨x,hx,he,hb⟩=>⟨x,hx,he,hw.call_ro hb⟩
theorem Eff.callV {v:Value}{f:FuncId}{xs:List Operand}{vs:List Value}{ats:Array TypeId}(hxs:evs ks xs=some vs)(hc:∀(args:Array Value) (w:World),(callFunc f args).run P w= .ok (.enter f args) w)
 (h:∀w,Hp B sg w→Calls P f vs.toArray w (fun e w'=>e= .returned v∧Below w.heap.size w w')):
 Eff P n B ⟨d,.call {callee:= .value (.func f),args:=xs.toArray,argTypes:=ats},ty,pos,aft,g⟩ ks sg (α:=Unit) (fun _=>True) (fun _=>v) (fun _=>sg):=
 Eff.call hxs hc fun w hw=>(h w hw).mono fun e w' ⟨he,hb⟩=>⟨(),trivial,he,hw.call_ro hb⟩
theorem Qcall.of {v:Value}{f:FuncId}{xs:List Operand}{vs:List Value}{ats:Array TypeId}(hxs:evs ks xs=some vs)(hc:∀(args:Array Value) (w:World),(callFunc f args).run P w= .ok (.enter f args) w)
 (h:∀w,Hp B sg w→Calls P f vs.toArray w (fun e w'=>e= .returned v∧Below w.heap.size w w')):
 Qcall P n B ⟨d,.call {callee:= .value (.func f),args:=xs.toArray,argTypes:=ats},ty,pos,aft,g⟩ ks sg v:=fun a w ha hw=>⟨f,vs.toArray,run_call w ha hxs hc,h w hw⟩
theorem Eff.callM {α:Type}{φ:α→Prop}{v:α→Value}{so:α→Sg}{f:FuncId}{xs:List Operand}{vs:List Value}{ats:Array TypeId}(ss:Sg){r:Sg}(hp:Pick ss sg r)(hxs:evs ks xs=some vs)(hc:∀(args:Array Value) (w:World),(callFunc f args).run P w= .ok (.enter f args) w)
 (h:∀w,Hp B sg w→Sat ss w→Calls P f vs.toArray w (fun e w'=>∃x,φ x∧e= .returned (v x)∧Hp ⟨w,ids ss⟩ (so x) w')):
 Eff P n B ⟨d,.call {callee:= .value (.func f),args:=xs.toArray,argTypes:=ats},ty,pos,aft,g⟩ ks sg φ v (fun x=>so x++r):=
 Eff.call hxs hc fun w hw=>(h w hw (hw.sat.pick hp)).mono fun e w' ⟨x,hx,he,hb⟩=>⟨x,hx,he,hw.call hp hb⟩
end
section
variable {P:Program}{n:Nat}{B:Base}{Q:Exit→Act→World→Prop}{ks:Ks}{sg:Sg}{ops:Array Oper}{rest:List Oper}
variable {d:Nat}{op:Op}{ty:TypeId}{pos:String}{aft:Array Edge}{g:Option (Nat×Bool)}
theorem LW.v {v:Value}(hg:gd ops ks g=some true)(hd:Nat.blt d n=true)(hv:Val P n B ⟨some d,op,ty,pos,aft,g⟩ ks sg v)(h:LW P n B ops Q rest ((d,v)::ks) sg):LW P n B ops Q (⟨some d,op,ty,pos,aft,g⟩::rest) ks sg:=LW.val hg hd hv h
theorem LW.p (hg:gd ops ks g=some false)(hd:Nat.blt d n=true)(h:LW P n B ops Q rest ((d,undef)::ks) sg):LW P n B ops Q (⟨some d,op,ty,pos,aft,g⟩::rest) ks sg:=LW.pass hg hd h
theorem LW.e {α:Type}{φ:α→Prop}{v:α→Value}{sg':α→Sg}(hg:gd ops ks g=some true)(hd:Nat.blt d n=true)(he:Eff P n B ⟨some d,op,ty,pos,aft,g⟩ ks sg φ v sg')
 (h:∀x,φ x→LW P n B ops Q rest ((d,v x)::ks) (sg' x)):LW P n B ops Q (⟨some d,op,ty,pos,aft,g⟩::rest) ks sg:=LW.eff hg hd he h
theorem LW.eN {α:Type}{φ:α→Prop}{v:α→Value}{sg':α→Sg}(hg:gd ops ks g=some true)(he:Eff P n B ⟨none,op,ty,pos,aft,g⟩ ks sg φ v sg')
 (h:∀x,φ x→LW P n B ops Q rest ks (sg' x)):LW P n B ops Q (⟨none,op,ty,pos,aft,g⟩::rest) ks sg:=LW.eff hg rfl he h
theorem QW.v {v:Value}(hg:gd ops ks g=some true)(hd:Nat.blt d n=true)(hv:Val P n B ⟨some d,op,ty,pos,aft,g⟩ ks sg v)(h:QW P n B ops Q sg rest ((d,v)::ks)):QW P n B ops Q sg (⟨some d,op,ty,pos,aft,g⟩::rest) ks:=QW.val hg hd hv h
theorem QW.p (hg:gd ops ks g=some false)(hd:Nat.blt d n=true)(h:QW P n B ops Q sg rest ((d,undef)::ks)):QW P n B ops Q sg (⟨some d,op,ty,pos,aft,g⟩::rest) ks:=QW.pass hg hd h
theorem QW.c {v:Value}(hg:gd ops ks g=some true)(hd:Nat.blt d n=true)(hv:Qcall P n B ⟨some d,op,ty,pos,aft,g⟩ ks sg v)(h:QW P n B ops Q sg rest ((d,v)::ks)):QW P n B ops Q sg (⟨some d,op,ty,pos,aft,g⟩::rest) ks:=QW.call hg hd hv h
theorem RW.v {S:Sg}{fuel:Nat}{listed:Array Bool}{v:Value}(i:Nat)(hi:ops[i]? =some ⟨some d,op,ty,pos,aft,g⟩)(hs:Region.noSelect ops=true)(hf:Region.free .any ops listed i=true)(hr:(Region.ready .any ops listed).contains i=true)
 (hQ:∀c a w,Q (.panic c) (a.put (some d) v) w→Q (.panic c) a w)(hg:gd ops ks g=some true)(hd:Nat.blt d n=true)(hv:Val P n B ⟨some d,op,ty,pos,aft,g⟩ ks S v)
 (h:RW P n B ops Q S fuel (listed.setIfInBounds i true) ((d,v)::ks) sg):RW P n B ops Q S (fuel+1) listed ks sg:=RW.take i hi hs hf hr hQ hg hd hv h
theorem RW.p {S:Sg}{fuel:Nat}{listed:Array Bool}(i:Nat)(hi:ops[i]? =some ⟨some d,op,ty,pos,aft,g⟩)(hs:Region.noSelect ops=true)(hf:Region.free .any ops listed i=true)(hr:(Region.ready .any ops listed).contains i=true)
 (hQ:∀c a w,Q (.panic c) (a.put (some d) undef) w→Q (.panic c) a w)(hg:gd ops ks g=some false)(hd:Nat.blt d n=true)
 (h:RW P n B ops Q S fuel (listed.setIfInBounds i true) ((d,undef)::ks) sg):RW P n B ops Q S (fuel+1) listed ks sg:=RW.leave i hi hs hf hr hQ hg hd h
theorem RW.e {S:Sg}{fuel:Nat}{listed:Array Bool}{α:Type}{φ:α→Prop}{v:α→Value}{sg':α→Sg}(i:Nat)(hi:ops[i]? =some ⟨some d,op,ty,pos,aft,g⟩)(hr:Region.ready .any ops listed=[i])
 (hg:gd ops ks g=some true)(hd:Nat.blt d n=true)(he:Eff P n B ⟨some d,op,ty,pos,aft,g⟩ ks sg φ v sg')(hS:∀x,∃r,Pick S (sg' x) r)
 (h:∀x,φ x→RW P n B ops Q S fuel (listed.setIfInBounds i true) ((d,v x)::ks) (sg' x)):RW P n B ops Q S (fuel+1) listed ks sg:=RW.eff i hi hr hg hd he hS h
theorem RW.eN {S:Sg}{fuel:Nat}{listed:Array Bool}{α:Type}{φ:α→Prop}{v:α→Value}{sg':α→Sg}(i:Nat)(hi:ops[i]? =some ⟨none,op,ty,pos,aft,g⟩)(hr:Region.ready .any ops listed=[i])
 (hg:gd ops ks g=some true)(he:Eff P n B ⟨none,op,ty,pos,aft,g⟩ ks sg φ v sg')(hS:∀x,∃r,Pick S (sg' x) r)
 (h:∀x,φ x→RW P n B ops Q S fuel (listed.setIfInBounds i true) ks (sg' x)):RW P n B ops Q S (fuel+1) listed ks sg:=RW.eff i hi hr hg rfl he hS h
theorem RO.e {S:Sg}{fuel:Nat}{listed:Array Bool}{α:Type}{φ:α→Prop}{v:α→Value}{sg':α→Sg}{i:Nat}(hi:ops[i]? =some ⟨some d,op,ty,pos,aft,g⟩)
 (hg:gd ops ks g=some true)(hd:Nat.blt d n=true)(he:Eff P n B ⟨some d,op,ty,pos,aft,g⟩ ks sg φ v sg')(hS:∀x,∃r,Pick S (sg' x) r)
 (h:∀x,φ x→RW P n B ops Q S fuel (listed.setIfInBounds i true) ((d,v x)::ks) (sg' x)):RO P n B ops Q S fuel listed ks sg i:=RO.eff hi hg hd he hS h
theorem Fr.re {a:Act}{v v':Value}(ha:Fr n ks a)(hl:look ks d=some v)(e:v=v'):Fr n ((d,v')::ks) a:=⟨ha.defers,ha.size,fun i u hi=>by
 simp only[look] at hi
 by_cases e':d=i
 ·subst e';simp at hi;subst hi;subst e;exact ha.at_ _ _ hl
 ·rw[nbeq e'] at hi;exact ha.at_ _ _ hi⟩
theorem LW.re {l:List Oper}(d:Nat){v:Value}(v':Value)(hl:look ks d=some v)(e:v=v')(h:LW P n B ops Q l ((d,v')::ks) sg):LW P n B ops Q l ks sg:=fun a w ha hw=>h a w (ha.re hl e) hw
theorem QW.re {l:List Oper}(d:Nat){v:Value}(v':Value)(hl:look ks d=some v)(e:v=v')(h:QW P n B ops Q sg l ((d,v')::ks)):QW P n B ops Q sg l ks:=fun a ha=>h a (ha.re hl e)
theorem RW.re {S:Sg}{fuel:Nat}{listed:Array Bool}(d:Nat){v:Value}(v':Value)(hl:look ks d=some v)(e:v=v')(h:RW P n B ops Q S fuel listed ((d,v')::ks) sg):RW P n B ops Q S fuel listed ks sg:=fun a w ha hw hS=>h a w (ha.re hl e) hw hS
theorem PQ.segs {x:Exit}{ss r:Sg}(h:PQ n B Q x ks ss)(hp:Pick ss sg r):PQ n B Q x ks sg:=fun a w ha hw=>h a w ha (hw.pick hp)
end
class BT (b:Bool)(p:outParam Prop):Prop where
 out:b=true→p
class BF (b:Bool)(p:outParam Prop):Prop where
 out:b=false→p
theorem bT {b:Bool}{p:Prop}[h:BT b p](e:b=true):p:=h.out e
theorem bF {b:Bool}{p:Prop}[h:BF b p](e:b=false):p:=h.out e
instance (priority:=low)(b:Bool):BT b (b=true):=⟨id⟩
instance (priority:=low)(b:Bool):BF b (b=false):=⟨id⟩
instance (p:Prop)[Decidable p]:BT (decide p) p:=⟨of_decide_eq_true⟩
instance (p:Prop)[Decidable p]:BF (decide p) (¬p):=⟨of_decide_eq_false⟩
instance (priority:=high)(a b:Int):BF (decide (a<b)) (b≤a):=⟨fun h=>Int.not_lt.1 (of_decide_eq_false h)⟩
instance (priority:=high)(a b:Int):BF (decide (a≤b)) (b<a):=⟨fun h=>Int.not_le.1 (of_decide_eq_false h)⟩
instance (a b:Int):BT (a==b) (a=b):=⟨fun h=>by simpa using h⟩
instance (a b:Int):BF (a==b) (a≠b):=⟨fun h=>by simpa using h⟩
instance (a b:Int):BT (a !=b) (a≠b):=⟨fun h=>by simpa using h⟩
instance (a b:Int):BF (a !=b) (a=b):=⟨fun h=>by simpa using h⟩
instance (b:Bool)(p:Prop)[h:BF b p]:BT (!b) p:=⟨fun e=>h.out (by simpa using e)⟩
instance (b:Bool)(p:Prop)[h:BT b p]:BF (!b) p:=⟨fun e=>h.out (by simpa using e)⟩
instance (b c:Bool)(p q:Prop)[h:BF b p][h':BF c q]:BF (b||c) (p∧q):=⟨fun e=>by rw[Bool.or_eq_false_iff] at e;exact⟨h.out e.1,h'.out e.2⟩⟩
section
variable {P:Program}{n:Nat}{B:Base}{ks:Ks}{sg:Sg}{d:Option Tmp}{ty:TypeId}{pos:String}{aft:Array Edge}{g:Option (Nat×Bool)}
theorem Eff.allocA {t:TypeId}{l:List Value}(hz:∀w,(zeroValue t).run P w= .ok (.agg l.toArray) w):Eff P n B ⟨d,.alloc t,ty,pos,aft,g⟩ ks sg (α:=Nat) (fun _=>True) (fun b=> .pointer (some ⟨b,0,none⟩)) (fun b=>[(b,.cells l.toArray t (0,0))]::sg):=Eff.alloc hz
theorem cells_one {v:Value}(h1:v.oneCell'=true):v.cells=#[v]:=by cases v<;>first|rfl|cases h1
theorem Eff.boxA {t:TypeId}{x:Operand}{l:List Value}(hx:ev ks x=some (.agg l.toArray)):Eff P n B ⟨d,.box t x,ty,pos,aft,g⟩ ks sg (α:=Nat) (fun _=>True) (fun b=> .pointer (some ⟨b,0,none⟩)) (fun b=>[(b,.cells l.toArray t (0,0))]::sg):=Eff.box hx
theorem Eff.boxS {t:TypeId}{x:Operand}{v:Value}(hx:ev ks x=some v)(h1:v.oneCell'=true):Eff P n B ⟨d,.box t x,ty,pos,aft,g⟩ ks sg (α:=Nat) (fun _=>True) (fun b=> .pointer (some ⟨b,0,none⟩)) (fun b=>[(b,.cells [v].toArray t (0,0))]::sg):=by
 have:=Eff.box (P:=P) (n:=n) (B:=B) (sg:=sg) (d:=d) (ty:=ty) (pos:=pos) (aft:=aft) (g:=g) (t:=t) hx
 rwa [cells_one h1] at this
theorem Eff.storeA {t T:TypeId}{x y:Operand}{b o:Nat}{l cs l':List Value}{sg':Sg}(hx:ev ks x=some (.pointer (some ⟨b,o,none⟩)))(hy:ev ks y=some (.agg cs.toArray))
 (hu:Upd b (.cells l.toArray T (0,0)) (.cells l'.toArray T (0,0)) sg sg')(hl:splice l o cs=l')(hlen:o+cs.length≤l.length)(hs:∀w,(sizeOf t).run P w= .ok cs.length w)(h1:cs.all (·.oneCell')=true):
 Eff P n B ⟨d,.store t x y,ty,pos,aft,g⟩ ks sg (α:=Unit) (fun _=>True) (fun _=>undef) (fun _=>sg'):=
 Eff.store_of hx hy hu (by simpa[Value.cells] using hl) (by simpa[Value.cells] using hlen) (by simpa[Value.cells] using hs) (by simpa[Value.cells] using h1)
def fillL (pl:Nat→Option (Nat×Nat)):List Value→List (Nat×Value)→Option (List Value)
 |l,[]=>some l
 |l,(i,v)::r=>match pl i with
  |none=>none
  |some (o,s)=>match Nat.beq v.cells.toList.length s&&Nat.ble (o+s) l.length with
   |true=>fillL pl (splice l o v.cells.toList) r
   |false=>none
theorem foldl_splice (o:Nat):∀(cs:List Value) (k:Nat) (l:List Value),
 ((cs.zipIdx k).foldl (fun(a:Array Value) (c,j)=>a.setIfInBounds (o+j) c) l.toArray)=(splice l (o+k) cs).toArray
 |[],k,l=>rfl
 |c::cs,k,l=>by
  simp only[List.zipIdx_cons,List.foldl_cons,List.setIfInBounds_toArray,splice]
  rw[foldl_splice o cs (k+1) (l.set (o+k) c)]
  rfl
theorem fill_of_fillL (pl:Nat→Option (Nat×Nat)):∀(ps:List (Nat×Value)) (l l':List Value),fillL pl l ps=some l'→Instr.fill pl l.toArray ps=some l'.toArray
 |[],l,l',h=>by simp[fillL] at h;simp[Instr.fill,h]
 |(i,v)::r,l,l',h=>by
  simp only[fillL] at h
  simp only[Instr.fill]
  cases hp:pl i with
  |none=>rw[hp] at h;simp at h
  |some os=>
   obtain⟨o,s⟩:=os
   rw[hp] at h
   simp only at h⊢
   cases hb:(Nat.beq v.cells.toList.length s&&Nat.ble (o+s) l.length) with
   |false=>rw[hb] at h;simp at h
   |true=>
    rw[hb] at h
    simp only at h
    simp only[Bool.and_eq_true] at hb
    have h1:=Nat.eq_of_beq_eq_true hb.1
    have h2:=Nat.le_of_ble_eq_true hb.2
    simp only[Array.length_toList] at h1
    rw[if_neg (by simp only[Bool.or_eq_true,decide_eq_true_eq,ne_eq,List.size_toArray];omega)]
    have hf:=foldl_splice o v.cells.toList 0 l
    have hz:v.cells.zipIdx.foldl (fun(a:Array Value) (c,j)=>a.setIfInBounds (o+j) c) l.toArray=(splice l o v.cells.toList).toArray:=by
     rw[← Array.foldl_toList]
     simpa using hf
    rw[hz]
    exact fill_of_fillL pl r _ _ h
def evp (ks:Ks):List (Nat×Operand)→Option (List (Nat×Value))
 |[]=>some []
 |(i,x)::r=>match ev ks x with
  |some v=>match evp ks r with
   |some l=>some ((i,v)::l)
   |none=>none
  |none=>none
theorem Fr.evp {a:Act}(ha:Fr n ks a):∀{xs:List (Nat×Operand)} {vs:List (Nat×Value)},V.evp ks xs=some vs→(xs.map fun(i,x)=>(i,a.eval x))=vs
 |[],vs,h=>by simp[V.evp] at h;simp[h]
 |(i,x)::r,vs,h=>by
  simp only[V.evp] at h
  cases hx:V.ev ks x with
  |none=>rw[hx] at h;simp at h
  |some v=>
   rw[hx] at h
   cases hr:V.evp ks r with
   |none=>rw[hr] at h;simp at h
   |some l=>rw[hr] at h;simp at h;subst h;simp[ha.ev hx,ha.evp hr]
theorem Val.build {t:TypeId}(cs:List Value){ps:List (Nat×Operand)}{vs:List (Nat×Value)}{zs:List Value}{fs:Array Field}{pl:List (Nat×Nat)}(hz:∀w,(zeroValue t).run P w= .ok (.agg zs.toArray) w)(hu:P.underlying t=some (.struct fs))
 (hp:∀w,(fs.mapM fun f=>do pure (f.offset,← sizeOf f.type):Sem (Array (Nat×Nat))).run P w= .ok pl.toArray w)(hv:evp ks ps=some vs)(hf:fillL (fun(i:Nat)=>pl[i]?) zs vs=some cs):
 Val P n B ⟨d,.build t ps.toArray,ty,pos,aft,g⟩ ks sg (.agg cs.toArray):=fun a w ha hw=>by
 show(do pure (Next.value (← Instr.build t (ps.toArray.map fun(i,x)=>(i,a.eval x)))):Sem Next).run P w=_
 refine run_value ?_
 have hm:=ha.evp hv
 have hfill:=fill_of_fillL _ _ _ _ hf
 have hfun:(fun(i:Nat)=>(pl.toArray)[i]?)=(fun(i:Nat)=>pl[i]?):=funext fun i=>by simp
 simp only[Instr.build,Sem.run_bind,hz,Result.andThen_ok,run_underlying hu,hp,List.map_toArray,hm,Value.cells,hfun,hfill,Sem.run_pure]
def repL (z:List Value):Nat→List Value
 |0=>[]
 |k+1=>z++repL z k
theorem repL_length (z:List Value):∀k,(repL z k).length=k*z.length
 |0=>by simp[repL]
 |k+1=>by simp only[repL,List.length_append,repL_length z k,Nat.add_mul,Nat.one_mul];omega
theorem repL_get (z:List Value):∀(k i:Nat),i<k*z.length→(repL z k)[i]? =z[i%z.length]?
 |0,i,h=>by simp at h
 |k+1,i,h=>by
  simp only[repL]
  by_cases hi:i<z.length
  ·rw[List.getElem?_append_left hi,Nat.mod_eq_of_lt hi]
  ·have hi':z.length≤i:=by omega
   rw[List.getElem?_append_right hi',repL_get z k (i-z.length) (by rw[Nat.add_mul,Nat.one_mul] at h;omega)]
   have:(i-z.length)%z.length=i%z.length:=(Nat.mod_eq_sub_mod hi').symm
   rw[this]
theorem range_rep (z:List Value)(len:Nat):((Array.range (len*z.length)).map (z.toArray[· %z.toArray.size]!))=(repL z len).toArray:=by
 apply Array.ext'
 apply List.ext_getElem?
 intro i
 simp only[Array.toList_map,Array.toList_range,List.getElem?_map]
 by_cases hi:i<len*z.length
 ·rw[repL_get z len i hi,List.getElem?_range hi]
  simp only[Option.map_some,List.size_toArray]
  have hpos:0<z.length:=by
   rcases Nat.eq_zero_or_pos z.length with h0|h0
   ·rw[h0] at hi;simp at hi
   ·exact h0
  have hm:i%z.length<z.length:=Nat.mod_lt _ hpos
  simp[hm]
 ·rw[List.getElem?_eq_none (by simp;omega),List.getElem?_eq_none (by rw[repL_length];omega)]
  rfl
theorem Eff.buildSlice {t e:TypeId}{len sz:Nat}{z:Value}{zl:List Value}(rep:(len*sz==0)=false)(cs:List Value){ps:List (Nat×Operand)}{vs:List (Nat×Value)}(hu:P.underlying t=some (.slice e))(hs:∀w,(sizeOf e).run P w= .ok sz w)
 (hz:∀w,(zeroValue e).run P w= .ok z w)(hv:evp ks ps=some vs)(hzl:z.cells=zl.toArray)(hzs:zl.length=sz)(hle:Nat.ble (len*sz) 16777216=true)(hf:fillL (fun i=>some (i*sz,sz)) (repL zl len) vs=some cs):
 Eff P n B ⟨d,.buildSlice t len ps.toArray,ty,pos,aft,g⟩ ks sg (α:=Nat) (fun _=>True) (fun b=> .slice (some ⟨b,0,none⟩) len len) (fun b=>[(b,.cells cs.toArray e (0,0))]::sg):=
 Eff.new fun a w ha hw=>by
  show(do pure (Next.value (← Instr.buildSlice t len (ps.toArray.map fun(i,x)=>(i,a.eval x)))):Sem Next).run P w=_
  refine run_value ?_
  have hm:=ha.evp hv
  have hfill:=fill_of_fillL _ _ _ _ hf
  have h0:¬len*sz=0:=by simpa using rep
  have h1:¬len*sz>2^24:=by have:=Nat.le_of_ble_eq_true hle;omega
  have hr:=range_rep zl len
  rw[hzs] at hr
  simp only[Instr.buildSlice,Sem.run_bind,run_underlying hu,hs,Result.andThen_ok,h1,if_false,h0,hz,Sem.run_pure,hzl,hr,List.map_toArray,hm,hfill,newRow,newObj,Sem.run]
end
section
variable {P:Program}{n:Nat}{B:Base}{Q:Exit→Act→World→Prop}{ks:Ks}{sg:Sg}{ops:Array Oper}{rest:List Oper}
variable {d:Option Nat}{ty:TypeId}{pos:String}{aft:Array Edge}{g:Option (Nat×Bool)}
def Jn {α:Type}(n:Nat)(B:Base)(φ:α→Prop)(T:α→Ks)(G:α→Sg):Exit→Act→World→Prop
 | .normal,a,w=>∃x,φ x∧Fr n (T x) a∧Hp B (G x) w
 |_,_,_=>False
theorem PQ.joined {α:Type}{φ:α→Prop}{T:α→Ks}{G:α→Sg}{r:Sg}(x:α)(hx:φ x)(hs:subK (T x) ks)(hp:Pick (G x) sg r):PQ n B (Jn n B φ T G) .normal ks sg:=fun a w ha hw=>⟨x,hx,ha.sub hs,hw.pick hp⟩
theorem CW.regJoin {α:Type}{id:Nat}{l:Array Oper}{b:Bool}(φ:α→Prop)(T:α→Ks)(G:α→Sg)(h1:CW P n B (Jn n B φ T G) (.region id l b) ks sg)(h2:∀x,φ x→PQ n B Q .normal (T x) (G x)):CW P n B Q (.region id l b) ks sg:=
 fun a w ha hw=>Code.wp_mono (fun e a w q=>by
  cases e with
  |normal=>obtain⟨x,hx,hf,hp⟩:=q;exact h2 x hx a w hf hp
  |_=>exact q.elim) (h1 a w ha hw)
theorem CW.join {α:Type}{c:Code}{K:Act→World→Prop}(φ:α→Prop)(T:α→Ks)(G:α→Sg)(h1:CW P n B (Exit.then (fun a w=>∃x,φ x∧Fr n (T x) a∧Hp B (G x) w) Q) c ks sg)(h2:∀x,φ x→PQ n B (Exit.then K Q) .normal (T x) (G x)):CW P n B (Exit.then K Q) c ks sg:=
 fun a w ha hw=>Code.wp_mono (fun e a w q=>by
  cases e with
  |normal=>obtain⟨x,hx,hf,hp⟩:=q;exact h2 x hx a w hf hp
  |_=>exact q) (h1 a w ha hw)
theorem PQ.joinedC {α:Type}{φ:α→Prop}{T:α→Ks}{G:α→Sg}{r:Sg}(x:α)(hx:φ x)(hs:subK (T x) ks)(hp:Pick (G x) sg r):PQ n B (Exit.then (fun a w=>∃x,φ x∧Fr n (T x) a∧Hp B (G x) w) Q) .normal ks sg:=fun a w ha hw=>⟨x,hx,ha.sub hs,hw.pick hp⟩
theorem Val.minI {x y:Operand}{ats:Array TypeId}{k:IntKind}{i j:Int}(hx:ev ks x=some (.int k i))(hy:ev ks y=some (.int k j)):Val P n B ⟨d,.call {callee:= .builtin .min,args:=#[x,y],argTypes:=ats},ty,pos,aft,g⟩ ks sg (.int k (if j<i then j else i)):=fun a w ha hw=>by
 have e:=ha.ev hx
 have e':=ha.ev hy
 simp[execOp,resolve,invoke,Go.builtin,Builtin.min_,Builtin.min2,e,e']
theorem Val.maxI {x y:Operand}{ats:Array TypeId}{k:IntKind}{i j:Int}(hx:ev ks x=some (.int k i))(hy:ev ks y=some (.int k j)):Val P n B ⟨d,.call {callee:= .builtin .max,args:=#[x,y],argTypes:=ats},ty,pos,aft,g⟩ ks sg (.int k (if i<j then j else i)):=fun a w ha hw=>by
 have e:=ha.ev hx
 have e':=ha.ev hy
 simp[execOp,resolve,invoke,Go.builtin,Builtin.max_,Builtin.max2,e,e']
end
def slAt {α:Type}(w:World)(p:Option Addr)(sz:Nat)(enc:α→List Value)(l:List α):Prop:=
 l=[]∨∃b o,p=some ⟨b,o,none⟩∧b<w.heap.size∧∀i x,l[i]? =some x→w.rangeAt b (o+i*sz) (enc x)
theorem slAt_at {α:Type}{w:World}{p:Option Addr}{sz:Nat}{enc:α→List Value}{l:List α}{k n:Nat}(h:slAt w p sz enc l)(hn:l.length=n)(hk:k<n):∃b o x,p=some ⟨b,o,none⟩∧b<w.heap.size∧l[k]? =some x∧(∀i x,l[i]? =some x→w.rangeAt b (o+i*sz) (enc x)):=by
 rcases h with rfl|⟨b,o,hp,hb,h⟩
 ·simp at hn;omega
 ·exact⟨b,o,l[k]'(by omega),hp,hb,by simp,h⟩
theorem Hp.range {w0:World}{F:List Nat}{sg:Sg}{w:World}{b o:Nat}{cs:List Value}(hw:Hp ⟨w0,F⟩ sg w)(h:w0.rangeAt b o cs)(hb:b<w0.heap.size)(hf:b∉F):w.rangeAt b o cs:=
 fun j v hv=>by rw[World.cell?_of_block (w:=w0) (hw.old b hb hf)];exact h j v hv
theorem Hp.slAt {α:Type}{w0:World}{F:List Nat}{sg:Sg}{w:World}{p:Option Addr}{sz:Nat}{enc:α→List Value}{l:List α}(hw:Hp ⟨w0,F⟩ sg w)(h:V.slAt w0 p sz enc l)(hf:∀b o,p=some ⟨b,o,none⟩→b∉F):V.slAt w p sz enc l:=by
 rcases h with h|⟨b,o,hp,hb,h⟩
 ·exact .inl h
 ·exact .inr ⟨b,o,hp,Nat.lt_of_lt_of_le hb hw.size,fun i x hx=>hw.range (h i x hx) hb (hf b o hp)⟩
theorem rangeAt_sub {w:World}{b o:Nat}{cs:List Value}(h:w.rangeAt b o cs)(i:Nat){c r:List Value}(hd:cs.drop i=c++r):w.rangeAt b (o+i) c:=fun j v hv=>by
 have:cs[i+j]? =some v:=by rw[← List.getElem?_drop,hd,List.getElem?_append_left (List.getElem?_eq_some_iff.1 hv).1];exact hv
 have:=h (i+j) v this
 rwa [← Nat.add_assoc] at this
theorem slAt_own {α:Type}{B:Base}{sg:Sg}{w:World}{b T:Nat}{fr:Nat×Nat}{cs:List Value}{sz:Nat}{enc:α→List Value}{l:List α}(hw:Hp B sg w)(hm:InS (b,.cells cs.toArray T fr) sg)(h:∀i x,l[i]? =some x→∃r,cs.drop (i*sz)=enc x++r):slAt w (some ⟨b,0,none⟩) sz enc l:=
 .inr ⟨b,0,rfl,lt_of_some (hw.own _ hm.mem),fun i x hx=>by
  obtain⟨r,hr⟩:=h i x hx
  rw[Nat.zero_add]
  exact range_of_block (hw.own _ hm.mem) hr⟩
theorem drop_flatMap {α:Type}{enc:α→List Value}{sz:Nat}(hsz:∀x,(enc x).length=sz):∀(l:List α) (i:Nat) (x:α),l[i]? =some x→∃r,(l.flatMap enc).drop (i*sz)=enc x++r
 |[],i,x,h=>by simp at h
 |y::l,0,x,h=>by simp at h;subst h;exact⟨l.flatMap enc,by simp⟩
 |y::l,i+1,x,h=>by
  obtain⟨r,hr⟩:=drop_flatMap hsz l i x (by simpa using h)
  refine⟨r,?_⟩
  rw[List.flatMap_cons,List.drop_append,hsz]
  have e1:(i+1)*sz-sz=i*sz:=by rw[Nat.add_mul,Nat.one_mul,Nat.add_sub_cancel]
  have e2:List.drop ((i+1)*sz) (enc y)=[]:=List.drop_eq_nil_iff.2 (by rw[hsz,Nat.add_mul,Nat.one_mul];omega)
  rw[e1,e2,hr]
  rfl
theorem slAt_flat {α:Type}{B:Base}{sg:Sg}{w:World}{b T:Nat}{fr:Nat×Nat}{cs:List Value}{sz:Nat}{enc:α→List Value}{l:List α}{r:List Value}(hw:Hp B sg w)(hsz:∀x,(enc x).length=sz)(hcs:cs=l.flatMap enc++r)(hm:InS (b,.cells cs.toArray T fr) sg):slAt w (some ⟨b,0,none⟩) sz enc l:=
 slAt_own hw hm fun i x hx=>by
  obtain⟨q,hq⟩:=drop_flatMap hsz l i x hx
  refine⟨q++r,?_⟩
  have hi:i*sz≤(l.flatMap enc).length:=by
   rcases Nat.lt_or_ge ((l.flatMap enc).length) (i*sz) with h|h
   ·rw[List.drop_eq_nil_iff.2 (by omega)] at hq
    have:(enc x).length=0:=by
     have:=congrArg List.length hq
     simp at this;omega
    rw[hsz] at this;subst this;simp at h
   ·exact h
  rw[hcs,List.drop_append_of_le_length hi,hq,List.append_assoc]
section
variable {H:Type}{enc:TypeId×Value→H}{P:Program}{w:World}{base:Nat}{spare:Nat→Bool}{held:Bool}
theorem trod_fields {t:TypeId}{fs:Array Field}{fuel:Nat}{cs:List Value}{x:DataW H×List MemPlace}(ht:P.underlying t=some (.struct fs))(h:DataW.trod enc P w base spare held fuel t cs=some x):
 cs.length=P.cellsOf t∧∃m,∀(i:Nat) (f:Field),fs[i]? =some f→∀ty off k,f.type=ty→f.offset=off→P.cellsOf ty=k→∃y,DataW.trod enc P w base spare held m ty ((cs.drop off).take k)=some y:=by
 obtain⟨xs,m,_,_,hlen,hxl,hf⟩:=DataW.trod_struct ht h
 refine⟨hlen,m,fun i f hi ty off k h1 h2 h3=>?_⟩
 subst h1;subst h2;subst h3
 have hil:i<fs.size:=(Array.getElem?_eq_some_iff.1 hi).1
 exact⟨xs[i]'(by omega),by rw[hf i f hi];simp⟩
theorem add_of {w:World}{a:Addr}{i:Nat}{v:Value}(h:w.cell? (a.add i)=some v)(j:Nat)(hj:j≠0→True):(a.add i).spot=none:=by
 unfold World.cell? at h
 split at h
 ·split at h
  ·cases h
  ·rename_i hs;simpa using hs
 ·cases h
theorem addr_add (a:Addr)(h:a.spot=none)(i:Nat):a.add i=⟨a.block,a.off+i,none⟩:=by
 obtain⟨b,o,s⟩:=a
 simp only at h
 subst h
 exact Addr.add_mid b o i
theorem open_sl {t e:TypeId}{fuel:Nat}{cs:List Value}{x:DataW H×List MemPlace}{sz:Nat}(ht:P.underlying t=some (.slice e))(hsz:P.cellsOf e=sz)(hpos:0<sz)(h:DataW.trod enc P w base spare held fuel t cs=some x):
 ∃(p:Option Addr) (len cap:Nat) (l:List (List Value)),cs=[.slice p len cap]∧len=l.length∧len≤maxLen∧slAt w p sz id l∧∀c∈l,∃m y,DataW.trod enc P w base spare held m e c=some y:=by
 rcases Deep.open_slice ht h with⟨hcs,_⟩|⟨a,len,cap,m,n,D,Pl,hcs,_,hl,hm,hmm,_,hx⟩
 ·exact⟨none,0,0,[],hcs,rfl,by simp[maxLen],.inl rfl,by simp⟩
 ·have hlm:len≤m:=by rw[hmm];split<;>omega
  rw[hsz] at hx
  obtain⟨V,hV⟩:∃V:Nat→List Value,∀i,i<len→w.cells? base (a.add (i*sz)) sz=some (V i)∧DataW.trod enc P w base spare held n e (V i)=some (D i,Pl i):=by
   refine⟨fun i=>if hi:i<len then Classical.choose (hx i (Nat.lt_of_lt_of_le hi hlm)) else[],fun i hi=>?_⟩
   simp only[dif_pos hi]
   have:=Classical.choose_spec (hx i (Nat.lt_of_lt_of_le hi hlm))
   exact this
  refine⟨some a,len,cap,(List.range len).map V,hcs,by simp,Nat.le_trans hl hm,?_,fun c hc=>?_⟩
  ·by_cases h0:len=0
   ·left;simp[h0]
   ·right
    have hc0:=World.cells?_some (hV 0 (by omega)).1
    have hcell:∃v,w.cell? (a.add (0*sz))=some v:=by
     have h1:=hc0.2.2 0 hpos
     have h2:(V 0)[0]? =some ((V 0)[0]'(by rw[hc0.2.1];exact hpos)):=List.getElem?_eq_getElem _
     rw[h2] at h1
     have e:((a.add (0*sz)).add 0)=a.add (0*sz):=by simp[Addr.add]
     rw[e] at h1
     exact⟨_,h1⟩
    obtain⟨v,hv⟩:=hcell
    have hspot:a.spot=none:=by
     have:=add_of hv 0 (fun _=>trivial)
     simpa[Addr.add] using this
    have hlt:a.block<w.heap.size:=by
     have e:a.add (0*sz)=a:=by simp[Addr.add]
     rw[e] at hv
     exact block_lt_of_cell hv
    refine⟨a.block,a.off,by cases a;simp_all,hlt,fun i c hc=>?_⟩
    simp only[List.getElem?_map,Option.map_eq_some_iff] at hc
    obtain⟨i',hi',rfl⟩:=hc
    have hi:i<len∧i'=i:=by
     have:=List.getElem?_eq_some_iff.1 hi'
     obtain⟨h1,h2⟩:=this
     simp at h1 h2
     exact⟨h1,h2.symm⟩
    obtain⟨hi1,rfl⟩:=hi
    have hci:=World.cells?_some (hV i' hi1).1
    intro j v hv
    have hj:j<sz:=by have:=(List.getElem?_eq_some_iff.1 hv).1;rw[id,hci.2.1] at this;exact this
    have h1:=hci.2.2 j hj
    rw[addr_add a hspot,Addr.add_mid] at h1
    rw[h1];exact hv
  ·simp only[List.mem_map,List.mem_range] at hc
   obtain⟨i,hi,rfl⟩:=hc
   exact⟨n,_,(hV i hi).2⟩
theorem slAt_map {α:Type}{w:World}{p:Option Addr}{sz:Nat}{enc':α→List Value}{l:List (List Value)}{m:List α}(h:slAt w p sz id l)(he:l=m.map enc'):slAt w p sz enc' m:=by
 subst he
 rcases h with h|⟨b,o,hp,hb,h⟩
 ·left;simpa using h
 ·exact .inr ⟨b,o,hp,hb,fun i x hx=>h i (enc' x) (by simp[hx])⟩
theorem list_choice {α:Type}{enc':α→List Value}{p:α→Prop}:∀{l:List (List Value)},(∀c∈l,∃x,c=enc' x∧p x)→∃m:List α,l=m.map enc'∧∀x∈m,p x
 |[],_=>⟨[],rfl,by simp⟩
 |c::r,h=>by
  obtain⟨x,hx,hp⟩:=h c (by simp)
  obtain⟨m,hm,hq⟩:=list_choice (l:=r) (fun c hc=>h c (by simp[hc]))
  exact⟨x::m,by simp[hx,hm],by simpa using⟨hp,hq⟩⟩
end
theorem Hp.ro {w0 w:World}{sg ss r:Sg}(h:Hp ⟨w0,ids ss⟩ sg w)(hp:Pick ss sg r)(hs:Sat ss w0):Below w0.heap.size w0 w:=
 ⟨h.os,h.tape,h.output,h.size,fun k hk=>by
  by_cases hf:k∈ids ss
  ·obtain⟨p,hm,rfl⟩:=List.mem_map.1 hf
   rw[hs.own p hm,(h.pick hp).own p hm]
  ·exact h.old k hk hf⟩
section
variable {P:Program}{n:Nat}{B:Base}{ks:Ks}{sg:Sg}{d:Option Tmp}{ty:TypeId}{pos:String}{aft:Array Edge}{g:Option (Nat×Bool)}
theorem run_equalP {t e:TypeId}{p q:Option Addr}{r:Bool}(hu:P.underlying t=some (.pointer e))(h:(p=none∧r=q.isNone)∨(q=none∧r=p.isNone))(w:World):(Op.equal t (.pointer p) (.pointer q)).run P w= .ok r w:=by
 have key:∀dd,(Op.equalIn (dd+1) t (.pointer p) (.pointer q)).run P w= .ok r w:=fun dd=>by
  simp only[Op.equalIn,Sem.run_bind,run_underlying hu,Result.andThen_ok]
  rcases h with⟨rfl,rfl⟩|⟨rfl,rfl⟩
  ·cases q<;>rfl
  ·cases p<;>rfl
 exact key 9999
theorem Val.eqP {t e t':TypeId}{x y:Operand}{p q:Option Addr}(r:Bool)(hx:ev ks x=some (.pointer p))(hy:ev ks y=some (.pointer q))(hu:P.underlying t=some (.pointer e))(h:(p=none∧r=q.isNone)∨(q=none∧r=p.isNone)):
 Val P n B ⟨d,.binOp .eql t x y t',ty,pos,aft,g⟩ ks sg (.bool r):=Val.bin hx hy fun w=>by
 show(do eqGuard .eql t x y (.pointer p) (.pointer q);(do pure (Value.bool (← Op.equal t (.pointer p) (.pointer q)))):Sem Value).run P w=_
 have h1:(eqGuard .eql t x y (.pointer p) (.pointer q)).run P w= .ok () w:=rfl
 simp only[Sem.run_bind,h1,run_equalP hu h,Sem.run_pure,Result.andThen_ok]
theorem Val.neP {t e t':TypeId}{x y:Operand}{p q:Option Addr}(r:Bool)(hx:ev ks x=some (.pointer p))(hy:ev ks y=some (.pointer q))(hu:P.underlying t=some (.pointer e))(h:(p=none∧r=q.isNone)∨(q=none∧r=p.isNone)):
 Val P n B ⟨d,.binOp .neq t x y t',ty,pos,aft,g⟩ ks sg (.bool (!r)):=Val.bin hx hy fun w=>by
 show(do eqGuard .neq t x y (.pointer p) (.pointer q);(do pure (Value.bool (!(← Op.equal t (.pointer p) (.pointer q))))):Sem Value).run P w=_
 have h1:(eqGuard .neq t x y (.pointer p) (.pointer q)).run P w= .ok () w:=rfl
 simp only[Sem.run_bind,h1,run_equalP hu h,Sem.run_pure,Result.andThen_ok]
theorem Val.convI {s t:TypeId}{x:Operand}{k k':IntKind}{i:Int}{ds:TypeDesc}(hx:ev ks x=some (.int k i))(hs:P.underlying s=some ds)(hu:P.underlying t=some (.int k')):Val P n B ⟨d,.convert s t x,ty,pos,aft,g⟩ ks sg (.int k' (k'.wrap i)):=fun a w ha hw=>by
 show(do pure (Next.value (← Go.convert s t (a.eval x))):Sem Next).run P w=_
 rw[ha.ev hx]
 refine run_value ?_
 simp only[Go.convert,Sem.run_bind,run_underlying hs,run_underlying hu,Result.andThen_ok]
 cases ds<;>rfl
theorem Val.rem {t t':TypeId}{x y:Operand}{k:IntKind}{i j:Int}(hx:ev ks x=some (.int k i))(hy:ev ks y=some (.int k j))(hj:¬j=0):Val P n B ⟨d,.binOp .rem t x y t',ty,pos,aft,g⟩ ks sg (.int k (i.tmod j)):=Val.bin hx hy fun w=>by
 simp[eqGuard,Go.binOp,Op.intDiv,hj]
theorem Val.quo {t t':TypeId}{x y:Operand}{k:IntKind}{i j:Int}(hx:ev ks x=some (.int k i))(hy:ev ks y=some (.int k j))(hj:¬j=0):Val P n B ⟨d,.binOp .quo t x y t',ty,pos,aft,g⟩ ks sg (.int k (k.wrap (i.tdiv j))):=Val.bin hx hy fun w=>by
 simp[eqGuard,Go.binOp,Op.intDiv,hj]
theorem Eff.makeSlice {t e:TypeId}{x y:Operand}{m sz by_:Nat}{z:Value}{zl:List Value}(hx:ev ks x=some (.int .i64 (m:Nat)))(hy:ev ks y=some (.int .i64 (m:Nat)))(hu:P.underlying t=some (.slice e))(hi:(P.info? e).map (·.bytes)=some by_)(hs:∀w,(sizeOf e).run P w= .ok sz w)
 (hz:∀w,(zeroValue e).run P w= .ok z w)(hzl:z.cells=zl.toArray)(hzs:zl.length=sz)(hpos:0<m*sz)(hm:m*by_≤140737488355328)(hm':m≤9223372036854775807):
 Eff P n B ⟨d,.makeSlice t x y,ty,pos,aft,g⟩ ks sg (α:=Nat) (fun _=>True) (fun b=> .slice (some ⟨b,0,none⟩) m m) (fun b=>[(b,.cells (repL zl m).toArray e (0,0))]::sg):=
 Eff.new fun a w ha hw=>by
  show(do pure (Next.value (← Instr.makeSlice t (a.eval x) (a.eval y))):Sem Next).run P w=_
  rw[ha.ev hx,ha.ev hy]
  refine run_value ?_
  have hw1:IntKind.i64.wrap (m:Nat)=(m:Nat):=IntWalk.i64_in _ (by omega)
  cases hq:P.info? e with
  |none=>simp[hq] at hi
  |some i=>
   have hb:i.bytes=by_:=by simpa[hq] using hi
   have hti:(typeInfo e).run P w= .ok i w:=by simp[typeInfo,hq]
   have hr:=range_rep zl m
   rw[hzs] at hr
   have h1:¬((m:Nat):Int)<0:=by omega
   have hbm:by_*m≤140737488355328:=by rw[Nat.mul_comm];exact hm
   have h2:¬((by_:Nat):Int)*((m:Nat):Int)>2^48:=by
    have h3:((by_:Nat):Int)*((m:Nat):Int)=((by_*m:Nat):Int):=by simp
    rw[h3]
    have h4:(2:Int)^48=281474976710656:=by decide
    omega
   have h3:¬m*by_>roomBytes:=by unfold roomBytes;omega
   have h5:¬m*sz=0:=by omega
   simp only[Instr.makeSlice,Sem.run_bind,run_underlying hu,Result.andThen_ok,asInt,asIntOf,Sem.run_pure,hti,hw1,hb,h1,h2,decide_false,Bool.or_false,Bool.false_eq_true,if_false,Int.lt_irrefl,gt_iff_lt,Int.toNat_natCast,askRoom,h3,hs,h5,hz,hzl,hr,newRow,newObj,Sem.run]
theorem Eff.storeX {t T:TypeId}{x y:Operand}{b o:Nat}{v:Value}{l l':List Value}{sg':Sg}(hx:ev ks x=some (.pointer (some ⟨b,o,none⟩)))(hy:ev ks y=some v)(h1:v.oneCell'=true)
 (hu:Upd b (.cells l.toArray T (0,0)) (.cells l'.toArray T (0,0)) sg sg')(hl:l.set o v=l')(hlen:o<l.length)(hs:∀w,(sizeOf t).run P w= .ok 1 w):
 Eff P n B ⟨d,.store t x y,ty,pos,aft,g⟩ ks sg (α:=Unit) (fun _=>True) (fun _=>undef) (fun _=>sg'):=
 Eff.store hx hy h1 hu hl (by rw[Nat.blt_eq];exact hlen) hs
theorem Val.indexAddrA {t e:TypeId}{x y:Operand}{k:IntKind}{i b o m sz:Nat}(hx:ev ks x=some (.pointer (some ⟨b,o,none⟩)))(hy:ev ks y=some (.int k (i:Nat)))(hu:P.underlying t=some (.array m e))
 (hs:∀w,(sizeOf e).run P w= .ok sz w)(h1:i<m):Val P n B ⟨d,.indexAddr t x y,ty,pos,aft,g⟩ ks sg (.pointer (some ⟨b,o+i*sz,none⟩)):=fun a w ha hw=>by
 show(do pure (Next.value (← Instr.indexAt t (a.eval x) (a.eval y))):Sem Next).run P w=_
 rw[ha.ev hx,ha.ev hy]
 refine run_value ?_
 simp[Instr.indexAt,asIntOf,Sem.run_bind,run_underlying hu,hs,h1,Addr.add_mid,Instr.sureAddr]
theorem Val.shr {t t':TypeId}{x y:Operand}{k k':IntKind}{i j:Int}(hx:ev ks x=some (.int k i))(hy:ev ks y=some (.int k' j))(hj:¬j<0):Val P n B ⟨d,.binOp .shr t x y t',ty,pos,aft,g⟩ ks sg (.int k (i.fdiv (2^(min j.toNat k.bits)))):=Val.bin hx hy fun w=>by
 simp[eqGuard,Go.binOp,Op.shift,hj]
theorem Val.shl {t t':TypeId}{x y:Operand}{k k':IntKind}{i j:Int}(hx:ev ks x=some (.int k i))(hy:ev ks y=some (.int k' j))(hj:¬j<0):Val P n B ⟨d,.binOp .shl t x y t',ty,pos,aft,g⟩ ks sg (.int k (k.wrap (i*2^(min j.toNat k.bits)))):=Val.bin hx hy fun w=>by
 simp[eqGuard,Go.binOp,Op.shift,hj]
theorem Val.and {t t':TypeId}{x y:Operand}{k:IntKind}{i j:Int}(hx:ev ks x=some (.int k i))(hy:ev ks y=some (.int k j)):Val P n B ⟨d,.binOp .and t x y t',ty,pos,aft,g⟩ ks sg (.int k (k.wrap (BitVec.ofInt k.bits i&&& BitVec.ofInt k.bits j).toNat)):=Val.bin hx hy fun w=>by
 simp[eqGuard,Go.binOp,Op.intBits]
theorem Val.xor {t t':TypeId}{x y:Operand}{k:IntKind}{i j:Int}(hx:ev ks x=some (.int k i))(hy:ev ks y=some (.int k j)):Val P n B ⟨d,.binOp .xor t x y t',ty,pos,aft,g⟩ ks sg (.int k (k.wrap (BitVec.ofInt k.bits i^^^BitVec.ofInt k.bits j).toNat)):=Val.bin hx hy fun w=>by
 simp[eqGuard,Go.binOp,Op.intBits]
theorem Val.or {t t':TypeId}{x y:Operand}{k:IntKind}{i j:Int}(hx:ev ks x=some (.int k i))(hy:ev ks y=some (.int k j)):Val P n B ⟨d,.binOp .or t x y t',ty,pos,aft,g⟩ ks sg (.int k (k.wrap (BitVec.ofInt k.bits i|||BitVec.ofInt k.bits j).toNat)):=Val.bin hx hy fun w=>by
 simp[eqGuard,Go.binOp,Op.intBits]
theorem run_ext {f:FuncId}{xs:List Operand}{vs:List Value}{ats:Array TypeId}{a:Act}(w:World)(ha:Fr n ks a)(hxs:evs ks xs=some vs){r:Result Next}(hc:(callFunc f vs.toArray).run P w=r):
 (execOp a.eval ⟨d,.call {callee:= .value (.func f),args:=xs.toArray,argTypes:=ats},ty,pos,aft,g⟩).run P w=r:=by
 have hm:=ha.evs hxs
 simp only[execOp,resolve,Act.eval,Deferred.ofValue,Sem.run_bind,Sem.run_pure,Result.andThen_ok,invoke,List.map_toArray,hm]
 simpa using hc
theorem Val.ext {f:FuncId}{xs:List Operand}{vs:List Value}{ats:Array TypeId}{v:Value}(hxs:evs ks xs=some vs)(hc:∀w,Hp B sg w→(callFunc f vs.toArray).run P w= .ok (.value v) w):
 Val P n B ⟨d,.call {callee:= .value (.func f),args:=xs.toArray,argTypes:=ats},ty,pos,aft,g⟩ ks sg v:=fun a w ha hw=>run_ext w ha hxs (hc w hw)
theorem Eff.ext {f:FuncId}{xs:List Operand}{vs:List Value}{ats:Array TypeId}{v u:Value}{b o:Nat}{T:TypeId}{l l':List Value}{sg':Sg}(hxs:evs ks xs=some vs)
 (hu:Upd b (.cells l.toArray T (0,0)) (.cells l'.toArray T (0,0)) sg sg')(hl:l.set o u=l')(hc:∀w,w.heap[b]? =some (.cells l.toArray T (0,0))→(callFunc f vs.toArray).run P w= .ok (.value v) (w.setCell ⟨b,o,none⟩ u)):
 Eff P n B ⟨d,.call {callee:= .value (.func f),args:=xs.toArray,argTypes:=ats},ty,pos,aft,g⟩ ks sg (α:=Unit) (fun _=>True) (fun _=>v) (fun _=>sg'):=fun a w K Q ha hw hk=>by
 have hb:=hw.own _ hu.mem
 unfold Oper.wp
 rw[run_ext w ha hxs (hc w hb)]
 refine hk () _ trivial (hw.upd hu rfl rfl rfl (by simp[World.setCell]) ?_ (fun k hk=>Below.heap_setCell _ _ _ _ hk))
 simp[World.setCell,Array.getElem?_modify,hb,hl]
end
theorem run_call_swap {P:Program}{f:FuncId}{fn:Func}(hf:P.funcs[f]? =some fn)(hname:(fn.name== "runtime.NumGoroutine")=false)(hb:fn.body.isNone=true)(hn:Extern.findNext fn=none)(k:IntKind)
 (he:Extern.find fn=some (Extern.Atomic.swapT (.int k))){a:Addr}{x y:Int}{w:World}(hc:w.cell? a=some (.int k x))(hz:w.frozen? a=false):
 (callFunc f #[.pointer (some a),.int k y]).run P w= .ok (.value (.int k x)) (w.setCell a (.int k y)):=by
 rw[run_callFunc_extern hf hname hb hn he]
 change(Sem.run P (do
  let a' ← asAddr (.pointer (some a))
  let old ← Extern.Atomic.read (.int k) a'
  store a' (.int k y) .atomic
  pure old) w).andThen _=_
 simp[Extern.Atomic.read,asAddr,hc,hz,run_store P w a (.int k y) .atomic rfl,Result.andThen]
theorem repL_one (v:Value):∀m,repL [v] m=List.replicate m v
 |0=>rfl
 |m+1=>by simp only[repL,List.replicate_succ,repL_one v m,List.singleton_append]
theorem frozen_of {w:World}{b o:Nat}{l:List Value}{T:TypeId}(h:w.heap[b]? =some (.cells l.toArray T (0,0))):w.frozen? ⟨b,o,none⟩=false:=by simp[World.frozen?,h]
end Go.Proofs.YtjidffamcdcecaaGreat.V
namespace Go.Proofs.YtjidffamcdcecaaGreat.V
open Go Go.RowKit Go.MapKept
set_option linter.unusedVariables false
section
variable {P:Program}{n:Nat}{B:Base}{Q:Exit→Act→World→Prop}{ks:Ks}{sg:Sg}{d:Option Tmp}{ty:TypeId}{pos:String}{aft:Array Edge}{g:Option (Nat×Bool)}
def isGo:Exit→Bool
 | .goto _=>true
 |_=>false
theorem PQ.in_scope {e:Exit}(he:isGo e=false)(h:PQ n B Q e ks sg):PQ n B (Exit.noGoto Q) e ks sg:=fun a w ha hw=>by
 cases e<;>first|exact h a w ha hw|cases he
theorem PQ.perm {e:Exit}{sg':Sg}(h:PQ n B Q e ks sg')(hp:sg.flatten.Perm sg'.flatten):PQ n B Q e ks sg:=fun a w ha hw=>h a w ha (hw.perm hp)
theorem CW.perm {e:Code}{sg':Sg}(h:CW P n B Q e ks sg')(hp:sg.flatten.Perm sg'.flatten):CW P n B Q e ks sg:=fun a w ha hw=>h a w ha (hw.perm hp)
theorem PQ.retCT {fn:Func}{R:Ending→World→Prop}{p u:Nat}{t T:TypeId}{b:Nat}{fr:Nat×Nat}{l:List Value}{v:Value}(hr:fn.results=#[.cell p t,.tmp u])(hp:look ks p=some (.pointer (some ⟨b,0,none⟩)))(hu:look ks u=some v)
 (hm:InS (b,.cells l.toArray T fr) sg)(hg:∀w,(isAgg t).run P w= .ok true w)(hs:∀w,(sizeOf t).run P w= .ok l.length w)(h:∀w,Hp B sg w→R (.returned (.tuple #[.agg l.toArray,v])) w):PQ n B (bodyPost P fn R) .ret ks sg:=
 PQ.ret_of (fun a w ha hw=>by
  rw[results_cell_tmp hr,getD_of (ha.at_ _ _ hp),getD_of (ha.at_ _ _ hu)]
  have h1:=run_loadVar_many (P:=P) (t:=t) (range_of_block (o:=0) (r:=[]) (hw.own _ hm.mem) (by simp:l.drop 0=l++[])) hg hs
  simp[asAddr,Result.andThen,h1]) h
inductive EqF (P:Program):Nat→List Field→List Value→List Value→Bool→Prop
 |nil {o:Nat}:EqF P o [] [] [] true
 |int {o:Nat} {f:Field} {fs:List Field} {k k':IntKind} {i j:Int} {l m:List Value} {r:Bool} (hn:(f.name== "_")=false) (ho:f.offset=o) (ha:∀w,(isAgg f.type).run P w= .ok false w) (hu:P.underlying f.type=some (.int k'))
  (h:EqF P (o+1) fs l m r):EqF P o (f::fs) (.int k i::l) (.int k j::m) (i==j&&r)
 |str {o:Nat} {f:Field} {fs:List Field} {i j:ByteArray} {l m:List Value} {r:Bool} (hn:(f.name== "_")=false) (ho:f.offset=o) (ha:∀w,(isAgg f.type).run P w= .ok false w) (hu:P.underlying f.type=some .string)
  (h:EqF P (o+1) fs l m r):EqF P o (f::fs) (.string i::l) (.string j::m) (decide (i=j)&&r)
 |bool {o:Nat} {f:Field} {fs:List Field} {i j:Bool} {l m:List Value} {r:Bool} (hn:(f.name== "_")=false) (ho:f.offset=o) (ha:∀w,(isAgg f.type).run P w= .ok false w) (hu:P.underlying f.type=some .bool)
  (h:EqF P (o+1) fs l m r):EqF P o (f::fs) (.bool i::l) (.bool j::m) (i==j&&r)
theorem run_part_cell {t:TypeId}{xs:Array Value}{o:Nat}{v:Value}{l:List Value}(ha:∀w,(isAgg t).run P w= .ok false w)(h:xs.toList.drop o=v::l)(w:World):(part t xs o).run P w= .ok v w:=by
 have:xs[o]? =some v:=by
  rw[← Array.getElem?_toList]
  have:=congrArg (fun l=>l[0]?) h
  simpa using this
 simp[part,Sem.run_bind,ha,this]
theorem drop_tail {xs:Array Value}{o:Nat}{v:Value}{l:List Value}(h:xs.toList.drop o=v::l):xs.toList.drop (o+1)=l:=by
 rw[Nat.add_comm,← List.drop_drop]
 have:=congrArg (List.drop 1) h
 rw[List.drop_drop] at this⊢
 simpa[Nat.add_comm] using this
theorem run_eqFields {xs ys:Array Value}(dd:Nat)(w:World){o:Nat}{fs:List Field}{l m:List Value}{r:Bool}(h:EqF P o fs l m r):xs.toList.drop o=l→ys.toList.drop o=m→(Op.eqFields (dd+1) xs ys fs).run P w= .ok r w:=by
 induction h with
 |nil=>intro _ _;rfl
 |int hn ho ha hu h ih=>
  intro hx hy
  subst ho
  have hn':=by simpa using hn
  simp only[Op.eqFields,hn',ne_eq,not_false_eq_true,if_true,Sem.run_bind,run_part_cell ha hx,run_part_cell ha hy,Result.andThen_ok,run_equalIn_int w dd _ _ _ _ _ hu,Sem.run_ite]
  rename_i i j _ _ _
  cases hij:(i==j)
  ·simp
  ·simp[ih (drop_tail hx) (drop_tail hy)]
 |str hn ho ha hu h ih=>
  intro hx hy
  subst ho
  have hn':=by simpa using hn
  simp only[Op.eqFields,hn',ne_eq,not_false_eq_true,if_true,Sem.run_bind,run_part_cell ha hx,run_part_cell ha hy,Result.andThen_ok,run_equalIn_string w dd _ _ _ hu,Sem.run_ite,toList_beq]
  rename_i i j _ _ _
  by_cases hij:i=j
  ·simp[hij,ih (drop_tail hx) (drop_tail hy)]
  ·simp[hij]
 |bool hn ho ha hu h ih=>
  intro hx hy
  subst ho
  have hn':=by simpa using hn
  simp only[Op.eqFields,hn',ne_eq,not_false_eq_true,if_true,Sem.run_bind,run_part_cell ha hx,run_part_cell ha hy,Result.andThen_ok,run_equalIn_bool' w dd _ _ _ hu,Sem.run_ite]
  rename_i i j _ _ _
  cases hij:(i==j)
  ·simp
  ·simp[ih (drop_tail hx) (drop_tail hy)]
theorem run_equalA {t:TypeId}{fs:Array Field}{xs ys:List Value}{r:Bool}(hu:P.underlying t=some (.struct fs))(hp:P.stoodInHeld t=false)(h:EqF P 0 fs.toList xs ys r)(w:World):(Op.equalIn 10000 t (.agg xs.toArray) (.agg ys.toArray)).run P w= .ok r w:=by
 have hf:P.fieldsOf t=fs:=by simp[Program.fieldsOf,hu]
 rw[run_equalIn_struct w 9999 t _ _ (by rw[hf];exact hu) hp,hf]
 exact run_eqFields 9998 w h (by simp) (by simp)
theorem Val.eqA {t t':TypeId}{x y:Operand}{fs:Array Field}{xs ys:List Value}{r:Bool}(hx:ev ks x=some (.agg xs.toArray))(hy:ev ks y=some (.agg ys.toArray))(hm:P.eqGuardType P.depth t=false)(hu:P.underlying t=some (.struct fs))(hp:P.stoodInHeld t=false)
 (h:EqF P 0 fs.toList xs ys r):Val P n B ⟨d,.binOp .eql t x y t',ty,pos,aft,g⟩ ks sg (.bool r):=Val.bin hx hy fun w=>by
 rw[Sem.run_bind,run_eqGuard_agg w .eql t x y _ _ hm]
 simp only[Result.andThen_ok]
 rw[run_eql_struct,run_equalA hu hp h];rfl
theorem Val.neA {t t':TypeId}{x y:Operand}{fs:Array Field}{xs ys:List Value}{r:Bool}(hx:ev ks x=some (.agg xs.toArray))(hy:ev ks y=some (.agg ys.toArray))(hm:P.eqGuardType P.depth t=false)(hu:P.underlying t=some (.struct fs))(hp:P.stoodInHeld t=false)
 (h:EqF P 0 fs.toList xs ys r):Val P n B ⟨d,.binOp .neq t x y t',ty,pos,aft,g⟩ ks sg (.bool (!r)):=Val.bin hx hy fun w=>by
 rw[Sem.run_bind,run_eqGuard_agg w .neq t x y _ _ hm]
 simp only[Result.andThen_ok]
 rw[run_neq_struct,run_equalA hu hp h];rfl
theorem Val.indexS {t:TypeId}{x y:Operand}{k:IntKind}{i:Nat}{s:ByteArray}{u:UInt8}(hx:ev ks x=some (.string s))(hy:ev ks y=some (.int k (i:Nat)))(hu:P.underlying t=some .string)(h1:s[i]? =some u):
 Val P n B ⟨d,.index t x y,ty,pos,aft,g⟩ ks sg (.int .u8 (u.toNat:Nat)):=fun a w ha hw=>by
 show(do pure (Next.value (← Instr.index t (a.eval x) (a.eval y))):Sem Next).run P w=_
 rw[ha.ev hx,ha.ev hy]
 refine run_value ?_
 simp[Instr.index,asIntOf,Sem.run_bind,run_underlying hu,h1]
theorem Val.indexArr {t e:TypeId}{x y:Operand}{k:IntKind}{i m:Nat}{cs:List Value}{v:Value}(hx:ev ks x=some (.agg cs.toArray))(hy:ev ks y=some (.int k (i:Nat)))(hu:P.underlying t=some (.array m e))(hs:∀w,(sizeOf e).run P w= .ok 1 w)(ha:∀w,(isAgg e).run P w= .ok false w)(h:i<m)(hv:cs[i]? =some v):
 Val P n B ⟨d,.index t x y,ty,pos,aft,g⟩ ks sg v:=fun a w haa hw=>by
 show(do pure (Next.value (← Instr.index t (a.eval x) (a.eval y))):Sem Next).run P w=_
 rw[haa.ev hx,haa.ev hy]
 refine run_value ?_
 simp[Instr.index,asIntOf,Sem.run_bind,run_underlying hu,hs,h,part,ha,hv]
abbrev ME:=List (Nat×ByteArray×Value)
def mE (e:Nat×ByteArray×Value):MapEntry:=⟨.string e.2.1,e.2.2,e.1⟩
def mpO (E:ME)(c:Nat):Obj:= .map (E.map mE).toArray c
def mfind:ME→ByteArray→Nat→Option (Nat×Value)
 |[],_,_=>none
 |e::r,k,i=>if e.2.1=k then some (i,e.2.2) else mfind r k (i+1)
def mget:ME→ByteArray→Option Value
 |[],_=>none
 |e::r,k=>if e.2.1=k then some e.2.2 else mget r k
def mupd:ME→ByteArray→Value→ME
 |[],_,_=>[]
 |e::r,k,v=>if e.2.1=k then(e.1,k,v)::r else e::mupd r k v
def mdel:ME→ByteArray→ME
 |[],_=>[]
 |e::r,k=>if e.2.1=k then r else e::mdel r k
def mput (E:ME)(k:ByteArray)(v:Value)(c:Nat):ME:=if(mget E k).isSome then mupd E k v else E++[(c,k,v)]
def mclk (E:ME)(k:ByteArray)(c:Nat):Nat:=if(mget E k).isSome then c else c+1
theorem findNow_mfind (k:ByteArray):∀(E:ME) (i:Nat),Instr.findNow .string (.string k) (E.map mE) i=some (mfind E k i)
 |[],i=>rfl
 |e::r,i=>by
  simp only[List.map_cons,Instr.findNow,mE,Instr.sameNow,mfind]
  by_cases h:e.2.1=k
  ·have:(k==e.2.1)=true:=(bytes_beq _ _).2 h.symm
   rw[this,if_pos h]
  ·have:(k==e.2.1)=false:=by
    cases hb:(k==e.2.1)
    ·rfl
    ·exact absurd ((bytes_beq _ _).1 hb).symm h
   simp only[this,if_neg h]
   exact findNow_mfind k r (i+1)
theorem mfind_get (k:ByteArray):∀(E:ME) (i:Nat),(mfind E k i).map (·.2)=mget E k
 |[],i=>rfl
 |e::r,i=>by
  simp only[mfind,mget]
  split
  ·rfl
  ·exact mfind_get k r (i+1)
theorem mfind_at (k:ByteArray):∀(E:ME) (i:Nat) (j:Nat) (u:Value),mfind E k i=some (j,u)→∃q,j=i+q∧(∃e,E[q]? =some e∧e.2.1=k)∧(∀v,(E.map mE).modify q (fun e=>{e with key:= .string k,val:=v})=(mupd E k v).map mE)∧(E.map mE).eraseIdx q=(mdel E k).map mE
 |[],i,j,u,h=>by cases h
 |e::r,i,j,u,h=>by
  simp only[mfind] at h
  by_cases hk:e.2.1=k
  ·rw[if_pos hk] at h
   simp only[Option.some.injEq,Prod.mk.injEq] at h
   refine⟨0,h.1.symm,⟨e,rfl,hk⟩,fun v=>?_,?_⟩
   ·simp[mupd,hk,mE]
   ·simp[mdel,hk]
  ·rw[if_neg hk] at h
   obtain⟨q,h1,⟨e',h2,h3⟩,h4,h5⟩:=mfind_at k r (i+1) j u h
   refine⟨q+1,by omega,⟨e',by simpa using h2,h3⟩,fun v=>?_,?_⟩
   ·simp only[mupd,if_neg hk,List.map_cons,List.modify_succ_cons,h4 v]
   ·simp only[mdel,if_neg hk,List.map_cons,List.eraseIdx_cons_succ,h5]
theorem mdel_none (k:ByteArray):∀(E:ME),mget E k=none→mdel E k=E
 |[],_=>rfl
 |e::r,h=>by
  simp only[mget] at h
  by_cases hk:e.2.1=k
  ·simp[hk] at h
  ·rw[if_neg hk] at h
   simp only[mdel,if_neg hk,mdel_none k r h]
theorem run_findKey_m {w:World}{kt:TypeId}{k:ByteArray}{E:ME}(hk:P.underlying kt=some .string):(Instr.findKey kt (.string k) (E.map mE)).run P w= .ok (mfind E k 0) w:=run_findKey hk (findNow_mfind k E 0)
theorem Val.lookup {t kt et:TypeId}{x y:Operand}{b c:Nat}{E:ME}{k:ByteArray}{z:Value}(hx:ev ks x=some (.map (some b)))(hy:ev ks y=some (.string k))(hu:P.underlying t=some (.map kt et))(hk:P.underlying kt=some .string)(hz:∀w,(zeroValue et).run P w= .ok z w)(hm:InS (b,mpO E c) sg):
 Val P n B ⟨d,.lookup t x y true,ty,pos,aft,g⟩ ks sg (.tuple [(mget E k).getD z,.bool (mget E k).isSome].toArray):=fun a w ha hw=>by
 show(do pure (Next.value (← Instr.lookup t (a.eval x) (a.eval y) true)):Sem Next).run P w=_
 rw[ha.ev hx,ha.ev hy]
 refine run_value ?_
 have hb:w.heap[b]? =some (.map (E.map mE).toArray c):=hw.own _ hm.mem
 have hc:∀e,(Instr.checkKey e 10000 kt (.string k)).run P w= .ok () w:=fun e=>run_checkKey hk (show IsKey .string (.string k) from trivial) e 9999
 have hf:=run_findKey_m (P:=P) (w:=w) (k:=k) (E:=E) hk
 have hg:=mfind_get k E 0
 simp only[Instr.lookup,Sem.run_bind,run_underlying hu,Result.andThen_ok,MapKept.run_getObj_map hb,Sem.run_pure,hc,hf]
 cases hq:mfind E k 0 with
 |none=>rw[hq] at hg;simp only[Option.map_none] at hg;simp[← hg,hz]
 |some p=>rw[hq] at hg;simp only[Option.map_some] at hg;simp[← hg]
theorem Eff.setMap {o:Oper}{b:Nat}{E E':ME}{c c':Nat}{sg':Sg}{v:Value}(hu:Upd b (mpO E c) (mpO E' c') sg sg')
 (h:∀a w,Fr n ks a→Hp B sg w→(execOp a.eval o).run P w= .ok (.value v) {w with heap:=w.heap.setIfInBounds b (mpO E' c')}):
 Eff P n B o ks sg (α:=Unit) (fun _=>True) (fun _=>v) (fun _=>sg'):=fun a w K Q ha hw hk=>by
 unfold Oper.wp
 rw[h a w ha hw]
 have hb:=hw.own _ hu.mem
 exact hk () _ trivial (hw.upd hu rfl rfl rfl (by simp) (heap_set hb).1 (fun k hk=>(heap_set hb).2 k hk))
theorem Eff.setMapS {o:Oper}{b:Nat}{E E':ME}{c c':Nat}{sg':Sg}(hu:Upd b (mpO E c) (mpO E' c') sg sg')
 (h:∀a w,Fr n ks a→Hp B sg w→(execOp a.eval o).run P w= .ok .skip {w with heap:=w.heap.setIfInBounds b (mpO E' c')}):
 Eff P n B o ks sg (α:=Unit) (fun _=>True) (fun _=>undef) (fun _=>sg'):=fun a w K Q ha hw hk=>by
 unfold Oper.wp
 rw[h a w ha hw]
 have hb:=hw.own _ hu.mem
 exact hk () _ trivial (hw.upd hu rfl rfl rfl (by simp) (heap_set hb).1 (fun k hk=>(heap_set hb).2 k hk))
theorem run_mapUpdate_m {t kt et:TypeId}{b c:Nat}{E:ME}{k:ByteArray}{v:Value}{w:World}(hu:P.underlying t=some (.map kt et))(hk:P.underlying kt=some .string)(hb0:w.heap[b]? =some (mpO E c)):
 (Instr.mapUpdate t (.map (some b)) (.string k) v).run P w= .ok () {w with heap:=w.heap.setIfInBounds b (mpO (mput E k v c) (mclk E k c))}:=by
 have hb:w.heap[b]? =some (.map (E.map mE).toArray c):=hb0
 have hc:∀e,(Instr.checkKey e 10000 kt (.string k)).run P w= .ok () w:=fun e=>run_checkKey hk (show IsKey .string (.string k) from trivial) e 9999
 have hf:=run_findKey_m (P:=P) (w:=w) (k:=k) (E:=E) hk
 have hg:=mfind_get k E 0
 simp only[Instr.mapUpdate,Sem.run_bind,run_underlying hu,Result.andThen_ok,MapKept.run_getObj_map hb,hc,hf]
 cases hq:mfind E k 0 with
 |none=>
  rw[hq] at hg
  simp only[Option.map_none] at hg
  simp only[run_setObj_map _ hb,mput,mclk,← hg,Option.isSome_none,Bool.false_eq_true,if_false,mpO,List.map_append,List.map_cons,List.map_nil,mE,List.push_toArray]
 |some p=>
  obtain⟨j,u⟩:=p
  rw[hq] at hg
  simp only[Option.map_some] at hg
  obtain⟨q,h1,⟨e,h2,h3⟩,h4,h5⟩:=mfind_at k E 0 j u hq
  have hj:j=q:=by omega
  subst hj
  have he:((E.map mE).toArray)[j]? =some (mE e):=by simp[h2]
  have hks:(Instr.keyThatStays (mE e).key (.string k)).run P w= .ok (.string k) w:=by
   have:(mE e).key= .string k:=by simp[mE,h3]
   rw[this]
   exact run_keyThatStays (d:= .string) trivial
  simp only[he,Option.map_some,Option.getD_some,Sem.run_bind,hks,Result.andThen_ok,run_setObj_map _ hb,mput,mclk,← hg,Option.isSome_some,if_true,mpO,List.modify_toArray,h4 v]
theorem Eff.mapUpdate {t kt et:TypeId}{x y z:Operand}{b c:Nat}{E:ME}{k:ByteArray}{v:Value}{sg':Sg}(hx:ev ks x=some (.map (some b)))(hy:ev ks y=some (.string k))(hz:ev ks z=some v)(hu:P.underlying t=some (.map kt et))(hk:P.underlying kt=some .string)
 (hU:Upd b (mpO E c) (mpO (mput E k v c) (mclk E k c)) sg sg'):Eff P n B ⟨d,.mapUpdate t x y z,ty,pos,aft,g⟩ ks sg (α:=Unit) (fun _=>True) (fun _=>undef) (fun _=>sg'):=
 Eff.setMapS hU fun a w ha hw=>by
  show(do Instr.mapUpdate t (a.eval x) (a.eval y) (a.eval z);pure .skip:Sem Next).run P w=_
  rw[ha.ev hx,ha.ev hy,ha.ev hz,Sem.run_bind,run_mapUpdate_m hu hk (hw.own _ hU.mem)];rfl
theorem Eff.delete {t kt et:TypeId}{t2:TypeId}{x y:Operand}{b c:Nat}{E:ME}{k:ByteArray}{sg':Sg}(hx:ev ks x=some (.map (some b)))(hy:ev ks y=some (.string k))(hu:P.underlying t=some (.map kt et))(hk:P.underlying kt=some .string)
 (hU:Upd b (mpO E c) (mpO (mdel E k) c) sg sg'):Eff P n B ⟨d,.call {callee:= .builtin .delete,args:=#[x,y],argTypes:=#[t,t2]},ty,pos,aft,g⟩ ks sg (α:=Unit) (fun _=>True) (fun _=> .tuple #[]) (fun _=>sg'):=
 Eff.setMap hU fun a w ha hw=>by
  have hb:=hw.own _ hU.mem
  have hb':w.heap[b]? =some (.map (E.map mE).toArray c):=hb
  have e1:=ha.ev hx
  have e2:=ha.ev hy
  have hc:∀e,(Instr.checkKey e 10000 kt (.string k)).run P w= .ok () w:=fun e=>run_checkKey hk (show IsKey .string (.string k) from trivial) e 9999
  have hf:=run_findKey_m (P:=P) (w:=w) (k:=k) (E:=E) hk
  have hg:=mfind_get k E 0
  have key:(Builtin.delete_ #[t,t2] ty #[.map (some b),.string k]).run P w= .ok (.tuple #[]) {w with heap:=w.heap.setIfInBounds b (mpO (mdel E k) c)}:=by
   simp only[Builtin.delete_,List.getElem?_toArray,List.getElem?_cons_zero,List.getElem?_cons_succ,Sem.run_bind,run_underlying hu,Result.andThen_ok,MapKept.run_getObj_map hb',hc,hf]
   cases hq:mfind E k 0 with
   |none=>
    rw[hq] at hg
    simp only[Option.map_none] at hg
    simp only[Sem.run_bind,run_setObj_map _ hb',Result.andThen_ok,Sem.run_pure,mdel_none k E hg.symm,mpO]
   |some p=>
    obtain⟨j,u⟩:=p
    obtain⟨q,h1,⟨e,h2,h3⟩,h4,h5⟩:=mfind_at k E 0 j u hq
    have hj:j=q:=by omega
    subst hj
    have hlt:j<E.length:=(List.getElem?_eq_some_iff.1 h2).1
    have he:(E.map mE).toArray.eraseIdxIfInBounds j=((mdel E k).map mE).toArray:=by
     rw[← h5]
     simp[Array.eraseIdxIfInBounds,hlt]
    simp only[Sem.run_bind,run_setObj_map _ hb',Result.andThen_ok,Sem.run_pure,he,mpO]
  simp only[execOp,resolve,invoke,Go.builtin,Sem.run_bind,Sem.run_pure,Result.andThen_ok,List.map_toArray,List.map_cons,List.map_nil,e1,e2,key]
theorem Eff.makeMap {t:TypeId}:Eff P n B ⟨d,.makeMap t none,ty,pos,aft,g⟩ ks sg (α:=Nat) (fun _=>True) (fun b=> .map (some b)) (fun b=>[(b,mpO [] 0)]::sg):=
 Eff.new fun a w ha hw=>by
  show(do pure (Next.value (← Instr.makeMap t none)):Sem Next).run P w=_
  exact run_value (run_makeMap t w)
theorem Val.eqM {t kt et t':TypeId}{x y:Operand}{m:Option Nat}(hx:ev ks x=some (.map m))(hy:ev ks y=some (.map none))(hu:P.underlying t=some (.map kt et)):
 Val P n B ⟨d,.binOp .eql t x y t',ty,pos,aft,g⟩ ks sg (.bool m.isNone):=Val.bin hx hy fun w=>by
 show(do eqGuard .eql t x y (.map m) (.map none);(do pure (Value.bool (← Op.equal t (.map m) (.map none)))):Sem Value).run P w=_
 have h1:(eqGuard .eql t x y (.map m) (.map none)).run P w= .ok () w:=rfl
 simp only[Sem.run_bind,h1,run_equal_map_nil w t kt et m hu,Sem.run_pure,Result.andThen_ok]
end
theorem InS.nth {r:Sg}{p:Nat×Obj}:∀{l:Seg} {i:Nat},l[i]? =some p→InS p (l::r)
 |[],i,h=>by simp at h
 |q::l,0,h=>by simp at h;subst h;exact .here
 |q::l,i+1,h=> .inner (InS.nth (by simpa using h))
theorem Upd.nth {r:Sg}{b:Nat}{o o':Obj}:∀{l:Seg} {i:Nat},l[i]? =some (b,o)→Upd b o o' (l::r) (l.set i (b,o')::r)
 |[],i,h=>by simp at h
 |q::l,0,h=>by simp at h;subst h;exact .here
 |q::l,i+1,h=> .inner (Upd.nth (by simpa using h))
def mnd (E:ME):Prop:=(E.map fun e=>e.2.1).Nodup
theorem mdel_sub (k:ByteArray):∀(E:ME),(mdel E k).Sublist E
 |[]=> .slnil
 |e::r=>by
  simp only[mdel]
  split
  ·exact List.sublist_cons_self ..
  ·exact(mdel_sub k r).cons_cons e
end Go.Proofs.YtjidffamcdcecaaGreat.V
namespace Go.Proofs.YtjidffamcdcecaaGreat.V
open Go Go.RowKit
set_option linter.unusedVariables false
theorem Hp.tl {B:Base}{s:Seg}{r:Sg}{w:World}(h:Hp B (s::r) w):Hp B r w:=
 (h.perm (by rw[List.flatten_append,List.flatten_cons,List.flatten_cons,List.flatten_nil,List.append_nil];exact List.perm_append_comm):Hp B (r++[s]) w).left
theorem Hp.cons {B:Base}{sg:Sg}{w:World}{y:Nat}{o:Obj}(h:Hp B sg w)(ho:w.heap[y]? =some o)(hl:B.w.heap.size≤y∨y∈B.F)(hn:y∉ids sg):Hp B ([(y,o)]::sg) w:=by
 refine⟨h.os,h.tape,h.output,h.size,h.old,fun p hp=>?_,fun p hp=>?_,?_⟩
 ·simp only[List.flatten_cons,List.singleton_append,List.mem_cons] at hp
  rcases hp with rfl|hp
  ·exact ho
  ·exact h.own p hp
 ·simp only[List.flatten_cons,List.singleton_append,List.mem_cons] at hp
  rcases hp with rfl|hp
  ·exact hl
  ·exact h.lo p hp
 ·simp only[List.flatten_cons,List.singleton_append,List.map_cons,List.nodup_cons]
  exact⟨hn,h.nd⟩
section
variable {P:Program}{n:Nat}{B:Base}{Q:Exit→Act→World→Prop}{ks:Ks}{sg:Sg}
theorem Val.makeFunc {d:Option Tmp}{ty:TypeId}{pos:String}{aft:Array Edge}{g:Option (Nat×Bool)}{f:Fn}{xs ys:List Operand}{vs us:List Value}(hx:evs ks xs=some vs)(hy:evs ks ys=some us):
 Val P n B ⟨d,.makeFunc f xs.toArray ys.toArray,ty,pos,aft,g⟩ ks sg (.func f vs.toArray us.toArray):=fun a w ha hw=>by
 have h1:=ha.evs hx
 have h2:=ha.evs hy
 simp[execOp,h1,h2,Instr.makeFunc]
theorem Sat.below {sg:Sg}{w w':World}(h:Sat sg w)(hb:Below w.heap.size w w'):Sat sg w':=
 ⟨fun p hp=>(hb.block p.1 (lt_of_some (h.own p hp))).trans (h.own p hp),h.nd⟩
theorem Sat.lt {sgR:Sg}{w0:World}(h:Sat sgR w0){k:Nat}(hk:k∈ids sgR):k<w0.heap.size:=by
 obtain⟨p,hp,rfl⟩:=List.mem_map.1 hk
 exact lt_of_some (h.own p hp)
end
abbrev OwnO:=Option (Nat×List Value×Nat)
def ownV (n:Nat):OwnO→Value
 |none=> .slice none 0 0
 |some (g,_,cap)=> .slice (some ⟨g,0,none⟩) n cap
def ownS (e:TypeId)(xs:List Value):OwnO→Sg
 |none=>[]
 |some (g,rest,_)=>[[(g,.cells (xs++rest).toArray e (0,0))]]
def ownOk (sz n:Nat)(xs:List Value)(o:OwnO):Prop:=xs.length=n*sz∧match o with
 |none=>n=0
 |some (_,rest,cap)=>xs.length+rest.length=cap*sz
theorem ownV_one (n:Nat)(o:OwnO):(ownV n o).oneCell'=true:=by cases o<;>rfl
theorem Hp.grow_none {B:Base}{sg:Sg}{w w':World}(h:Hp B sg w)(hg:w.grownBy w' none):Hp B sg w':=
 ⟨hg.os.trans h.os,hg.tape.trans h.tape,hg.output.trans h.output,Nat.le_trans h.size hg.size,
  fun b hb hf=>(hg.block b (Nat.lt_of_lt_of_le hb h.size) (by simp)).trans (h.old b hb hf),fun p hp=>(hg.block p.1 (lt_of_some (h.own p hp)) (by simp)).trans (h.own p hp),h.lo,h.nd⟩
section
variable {P:Program}{n:Nat}{B:Base}{ks:Ks}{sg:Sg}{d:Option Tmp}{ty:TypeId}{pos:String}{aft:Array Edge}{g:Option (Nat×Bool)}
theorem own_new {R:Sg}{w w':World}{e sz m:Nat}{v':Value}{xs:List Value}(hR:Hp B R w)(hr:w'.ownsRow w.heap.size e sz v' m xs)(hg:w.grownBy w' none)(hm:0<m):
 ∃o',v'=ownV m o'∧ownOk sz m xs o'∧o'.isSome=true∧Hp B (ownS e xs o'++R) w':=by
 obtain⟨hlen,⟨_,h0⟩|⟨g,cap,cur,rfl,hbg,hb,hnc,hcm,hcs,htake⟩⟩:=hr
 ·omega
 ·refine⟨some (g,cur.toList.drop (m*sz),cap),rfl,⟨hlen,?_⟩,rfl,?_⟩
  ·have hle:m*sz≤cap*sz:=Nat.mul_le_mul_right _ hnc
   simp only[List.length_drop,Array.length_toList,hcs,hlen]
   omega
  ·have hcur:cur=(xs++cur.toList.drop (m*sz)).toArray:=by
    rw[← htake,List.take_append_drop]
   have h1:=hR.grow_none hg
   refine h1.cons (by rw[← hcur];exact hb) (.inl (Nat.le_trans hR.size hbg)) (fun hin=>?_)
   obtain⟨p,hp,rfl⟩:=List.mem_map.1 hin
   have:=lt_of_some (hR.own p hp)
   omega
theorem append_run {t e sz bytes:Nat}{z:Value}{R:Sg}{w:World}{xs:List Value}{m0:Nat}{o:OwnO}(hu:P.underlying t=some (.slice e))(hi:(P.info? e).map (fun i=>(i.zero,i.size,i.bytes))=some (some z,sz,bytes))(hzs:z.cells.size=sz)(hsz:0<sz)
 (hw:Hp B (ownS e xs o++R) w)(hok:ownOk sz m0 xs o){b off m c:Nat}{news:List Value}(hm:0<m)(hl:news.length=m*sz)(hnews:w.rangeAt b off news)(h1:news.all (·.oneCell')=true)(hmax:(m0+m)*bytes≤140737488355328)(hmax2:m0+m≤9223372036854775807):
 ∃o' w',(Builtin.append_ #[t,t] ty #[ownV m0 o,.slice (some ⟨b,off,none⟩) m c]).run P w= .ok (ownV (m0+m) o') w'∧ownOk sz (m0+m) (xs++news) o'∧o'.isSome=true∧Hp B (ownS e (xs++news) o'++R) w':=by
 cases hq:P.info? e with
 |none=>simp[hq] at hi
 |some i=>
  simp only[hq,Option.map_some,Option.some.injEq,Prod.mk.injEq] at hi
  obtain⟨hz,hs,hb⟩:=hi
  have hmx:m0+m≤maxLen:=by unfold maxLen;omega
  have hn':∀j u,news[j]? =some u→w.cell? ((⟨b,off,none⟩:Addr).add j)=some u:=fun j u h=>by rw[Addr.add_mid];exact hnews j u h
  have h1':∀u∈news,u.oneCell'=true:=fun u hu=>List.all_eq_true.1 h1 u hu
  rcases o with _|⟨g,rest,cap⟩
  ·obtain⟨hx,h0⟩:=hok
   simp only at h0
   subst h0
   have hx0:xs=[]:=List.length_eq_zero_iff.1 (by omega)
   subst hx0
   obtain⟨v',w',hrun,r1,r2,_⟩:=run_append_own (P:=P) w w.heap.size t ty e i z sz bytes hu hq hz hs hb hzs hsz (.slice none 0 0) 0 [] (World.ownsRow_nil w _ e sz) ⟨b,off,none⟩ m c news hl hn' h1' hmx hmax (Nat.le_refl _)
   obtain⟨o',rfl,h2,h3,h4⟩:=own_new (by simpa[ownS] using hw:Hp B R w) r1 r2 (by omega)
   exact⟨o',w',hrun,h2,h3,h4⟩
  ·obtain⟨hx,hcap⟩:=hok
   simp only at hcap
   have hown:=hw.own (g,.cells (xs++rest).toArray e (0,0)) (by simp[ownS])
   simp only at hown
   by_cases hroom:m0+m≤cap
   ·have hle:(m0+m)*sz≤cap*sz:=Nat.mul_le_mul_right _ hroom
    rw[Nat.add_mul] at hle
    have hrun:=run_append_room (P:=P) w t ty e i hu hq g m0 cap (xs++rest).toArray hown ⟨b,off,none⟩ m c news (by rw[hs];exact hl) hn' h1' hroom (by rw[hs];simp only[List.size_toArray,List.length_append];omega)
    have hcells:((xs++rest).toArray.toList.take (m0*i.size)++news++(xs++rest).toArray.toList.drop (m0*i.size+news.length))=(xs++news)++rest.drop news.length:=by
     rw[hs,← hx]
     simp[List.drop_append]
    rw[hcells] at hrun
    refine⟨some (g,rest.drop news.length,cap),_,hrun,⟨by rw[List.length_append,hx,hl,Nat.add_mul],?_⟩,rfl,?_⟩
    ·simp only[List.length_append,List.length_drop];omega
    ·refine hw.upd (b:=g) (o:= .cells (xs++rest).toArray e (0,0)) (o':= .cells ((xs++news)++rest.drop news.length).toArray e (0,0)) .here rfl rfl rfl (by simp[World.setRow]) ?_ (fun k hk=>?_)
     ·simp[World.setRow,Array.getElem?_modify,hown]
     ·simp[World.setRow,Array.getElem?_modify,Ne.symm hk]
   ·have holds:∀j u,xs[j]? =some u→w.cell? ((⟨g,0,none⟩:Addr).add j)=some u:=fun j u h=>by
     rw[Addr.add_mid]
     exact cell_of_block hown (by rw[Nat.zero_add,List.getElem?_append_left (List.getElem?_eq_some_iff.1 h).1,h])
    obtain⟨v',w',hrun,r1,r2⟩:=run_append_arg_grows (P:=P) (w:=w) t ty e i z sz bytes hu hq hz hs hb hzs hsz ⟨g,0,none⟩ m0 cap xs hx holds ⟨b,off,none⟩ m c news hl hn' (by omega) hmx hmax
    obtain⟨o',rfl,h2,h3,h4⟩:=own_new (by simpa[ownS] using hw:Hp B ([(g,.cells (xs++rest).toArray e (0,0))]::R) w).tl r1 r2 (by omega)
    exact⟨o',w',hrun,h2,h3,h4⟩
theorem Eff.ofVal {o:Oper}{v:Value}(h:Val P n B o ks sg v):Eff P n B o ks sg (α:=Unit) (fun _=>True) (fun _=>v) (fun _=>sg):=fun a w K Q ha hw hk=>by
 unfold Oper.wp
 rw[h a w ha hw]
 exact hk () w trivial hw
theorem PQ.retC {fn:Func}{R:Ending→World→Prop}{p:Nat}{t T:TypeId}{b:Nat}{fr:Nat×Nat}{l:List Value}(hr:fn.results=#[.cell p t])(hp:look ks p=some (.pointer (some ⟨b,0,none⟩)))
 (hm:InS (b,.cells l.toArray T fr) sg)(hg:∀w,(isAgg t).run P w= .ok true w)(hs:∀w,(sizeOf t).run P w= .ok l.length w)(h:∀w,Hp B sg w→R (.returned (.agg l.toArray)) w):PQ n B (bodyPost P fn R) .ret ks sg:=
 PQ.ret_of (fun a w ha hw=>by
  have h1:(loadVar t ⟨b,0,none⟩).run P w= .ok (.agg l.toArray) w:=run_loadVar_many (P:=P) (t:=t) (range_of_block (o:=0) (r:=[]) (hw.own _ hm.mem) (by simp:l.drop 0=l++[])) hg hs
  have h2:a.tmps[p]?.getD undef= .pointer (some ⟨b,0,none⟩):=by rw[ha.at_ _ _ hp];rfl
  simp only[results,hr]
  simp[asAddr,h2,h1]) h
end
def optI (ks:Ks):Option Operand→Nat→Nat→Prop
 |none,v,dflt=>v=dflt
 |some y,v,_=>∃k,ev ks y=some (.int k (v:Nat))
section
variable {P:Program}{n:Nat}{B:Base}{ks:Ks}{sg:Sg}{d:Option Tmp}{ty:TypeId}{pos:String}{aft:Array Edge}{g:Option (Nat×Bool)}
theorem run_sliceBound {k:IntKind}{v y:Nat}(h:v≤y)(code:BoundsCode)(w:World):(Instr.sliceBound (.int k (v:Nat)) y code).run P w= .ok v w:=by
 simp[Instr.sliceBound,asIntOf,h]
theorem run_slice_sl {t e sz b off m c L Hh M:Nat}{lo hi mx:Option Value}(hu:P.underlying t=some (.slice e))(hs:∀w,(sizeOf e).run P w= .ok sz w)
 (hlo:lo=none∧L=0∨∃k,lo=some (.int k (L:Nat)))(hhi:hi=none∧Hh=m∧mx=none∨∃k,hi=some (.int k (Hh:Nat)))(hmx:mx=none∧M=c∨∃k,mx=some (.int k (M:Nat)))(h1:L≤Hh)(h2:Hh≤M)(h3:M≤c)(w:World):
 (Instr.slice t (.slice (some ⟨b,off,none⟩) m c) lo hi mx).run P w= .ok (.slice (some ⟨b,if M=L then off else off+L*sz,none⟩) (Hh-L) (M-L)) w:=by
 have key:(Instr.sliceBounds true m c lo hi mx).run P w= .ok (L,Hh,M) w:=by
  rcases hmx with⟨rfl,rfl⟩|⟨k3,rfl⟩
  ·rcases hhi with⟨rfl,rfl,_⟩|⟨k2,rfl⟩
   ·rcases hlo with⟨rfl,rfl⟩|⟨k1,rfl⟩
    ·simp[Instr.sliceBounds]
    ·simp[Instr.sliceBounds,run_sliceBound h1]
   ·rcases hlo with⟨rfl,rfl⟩|⟨k1,rfl⟩
    ·simp[Instr.sliceBounds,run_sliceBound h2]
    ·simp[Instr.sliceBounds,Sem.run_bind,run_sliceBound h2,run_sliceBound h1]
  ·rcases hhi with⟨_,_,h⟩|⟨k2,rfl⟩
   ·cases h
   ·rcases hlo with⟨rfl,rfl⟩|⟨k1,rfl⟩
    ·simp[Instr.sliceBounds,Sem.run_bind,run_sliceBound h2,run_sliceBound h3]
    ·simp[Instr.sliceBounds,Sem.run_bind,run_sliceBound h2,run_sliceBound h1,run_sliceBound h3]
 simp only[Instr.slice,Sem.run_bind,run_underlying hu,Result.andThen_ok,key,hs,Sem.run_pure]
 by_cases hml:M=L
 ·simp[hml]
 ·simp[hml,Addr.add_mid]
theorem Val.slice {t e sz b off m c:Nat}{x:Operand}{lo hi mx:Option Operand}(L Hh M:Nat)(hx:ev ks x=some (.slice (some ⟨b,off,none⟩) m c))(hu:P.underlying t=some (.slice e))(hs:∀w,(sizeOf e).run P w= .ok sz w)
 (hlo:optI ks lo L 0)(hhi:optI ks hi Hh m)(hmx:optI ks mx M c)(hno:hi=none→mx=none)(h1:L≤Hh)(h2:Hh≤M)(h3:M≤c):
 Val P n B ⟨d,.slice t x lo hi mx,ty,pos,aft,g⟩ ks sg (.slice (some ⟨b,if M=L then off else off+L*sz,none⟩) (Hh-L) (M-L)):=fun a w ha hw=>by
 have conv:∀{o:Option Operand} {v dflt:Nat},optI ks o v dflt→(o.map a.eval=none∧v=dflt∧o=none)∨∃k,o.map a.eval=some (.int k (v:Nat)):=fun {o v dflt} h=>by
  cases o with
  |none=>exact .inl ⟨rfl,h,rfl⟩
  |some y=>obtain⟨k,hk⟩:=h;exact .inr ⟨k,by simp[ha.ev hk]⟩
 have hrun:(Instr.slice t (.slice (some ⟨b,off,none⟩) m c) (lo.map a.eval) (hi.map a.eval) (mx.map a.eval)).run P w= .ok (.slice (some ⟨b,if M=L then off else off+L*sz,none⟩) (Hh-L) (M-L)) w:=by
  refine run_slice_sl hu hs ?_ ?_ ?_ h1 h2 h3 w
  ·rcases conv hlo with⟨p,q,_⟩|⟨k,p⟩
   ·exact .inl ⟨p,q⟩
   ·exact .inr ⟨k,p⟩
  ·rcases conv hhi with⟨p,q,r⟩|⟨k,p⟩
   ·exact .inl ⟨p,q,by rw[hno r];rfl⟩
   ·exact .inr ⟨k,p⟩
  ·rcases conv hmx with⟨p,q,_⟩|⟨k,p⟩
   ·exact .inl ⟨p,q⟩
   ·exact .inr ⟨k,p⟩
 show(do pure (Next.value (← Instr.sliceAt t (a.eval x) (lo.map a.eval) (hi.map a.eval) (mx.map a.eval))):Sem Next).run P w=_
 rw[ha.ev hx]
 refine run_value ?_
 simp only[Instr.sliceAt,Sem.run_bind,run_underlying hu,Result.andThen_ok]
 exact hrun
theorem Eff.appendIn {t e sz bytes:Nat}{z:Value}{x y:Operand}{gb i m cap q c:Nat}{cur news r' cells':List Value}{sg':Sg}(hx:ev ks x=some (.slice (some ⟨gb,0,none⟩) i cap))(hy:ev ks y=some (.slice (some ⟨gb,q,none⟩) m c))(hu:P.underlying t=some (.slice e))
 (hi:(P.info? e).map (fun i=>(i.zero,i.size,i.bytes))=some (some z,sz,bytes))(hU:Upd gb (.cells cur.toArray e (0,0)) (.cells cells'.toArray e (0,0)) sg sg')(hc:cells'=cur.take (i*sz)++news++cur.drop (i*sz+news.length))(hl:news.length=m*sz)(hnews:m=0∨cur.drop q=news++r')(h1:news.all (·.oneCell')=true)
 (hroom:i+m≤cap)(hfit:i*sz+news.length≤cur.length):
 Eff P n B ⟨d,.call {callee:= .builtin .append,args:=#[x,y],argTypes:=#[t,t]},ty,pos,aft,g⟩ ks sg (α:=Unit) (fun _=>True) (fun _=> .slice (some ⟨gb,0,none⟩) (i+m) cap) (fun _=>sg'):=fun a w K Q ha hw hk=>by
 have e1:=ha.ev hx
 have e2:=ha.ev hy
 have hb:=hw.own _ hU.mem
 simp only at hb
 cases hq:P.info? e with
 |none=>simp[hq] at hi
 |some inf=>
  simp only[hq,Option.map_some,Option.some.injEq,Prod.mk.injEq] at hi
  obtain⟨_,hs,_⟩:=hi
  have hn':∀j u,news[j]? =some u→w.cell? ((⟨gb,q,none⟩:Addr).add j)=some u:=fun j u h=>by
   rcases hnews with h0|h0
   ·subst h0
    have:news=[]:=List.length_eq_zero_iff.1 (by omega)
    subst this;simp at h
   ·rw[Addr.add_mid];exact range_of_block (o:=q) hb h0 j u h
  have hrun:=run_append_room (P:=P) w t ty e inf hu hq gb i cap cur.toArray hb ⟨gb,q,none⟩ m c news (by rw[hs];exact hl) hn' (fun u hu=>List.all_eq_true.1 h1 u hu) hroom (by rw[hs];simpa using hfit)
  rw[hs] at hrun
  simp only[← hc] at hrun
  unfold Oper.wp
  have hex:(execOp a.eval ⟨d,.call {callee:= .builtin .append,args:=#[x,y],argTypes:=#[t,t]},ty,pos,aft,g⟩).run P w= .ok (.value (.slice (some ⟨gb,0,none⟩) (i+m) cap)) (w.setRow gb cells'.toArray):=by
   simp only[execOp,resolve,invoke,Go.builtin,Sem.run_bind,Sem.run_pure,Result.andThen_ok,List.map_toArray,List.map_cons,List.map_nil,e1,e2,hrun]
  rw[hex]
  refine hk () _ trivial (hw.upd hU rfl rfl rfl (by simp[World.setRow]) ?_ (fun k hk=>?_))
  ·simp[World.setRow,Array.getElem?_modify,hb]
  ·simp[World.setRow,Array.getElem?_modify,Ne.symm hk]
theorem Eff.clear {t e:Nat}{z:Value}{zl:List Value}{x:Operand}{gb q m c:Nat}{cur cells':List Value}{sg':Sg}(hx:ev ks x=some (.slice (some ⟨gb,q,none⟩) (m+1) c))(hu:P.underlying t=some (.slice e))(hz:∀w,(zeroValue e).run P w= .ok z w)(hzl:z.cells=zl.toArray)
 (hU:Upd gb (.cells cur.toArray e (0,0)) (.cells cells'.toArray e (0,0)) sg sg')(hc:splice cur q (repL zl (m+1))=cells')(hfit:q+(repL zl (m+1)).length≤cur.length)(h1:(repL zl (m+1)).all (·.oneCell')=true):
 Eff P n B ⟨d,.call {callee:= .builtin .clear,args:=#[x],argTypes:=#[t]},ty,pos,aft,g⟩ ks sg (α:=Unit) (fun _=>True) (fun _=> .tuple #[]) (fun _=>sg'):=fun a w K Q ha hw hk=>by
 have e1:=ha.ev hx
 have hb:=hw.own _ hU.mem
 simp only at hb
 obtain⟨w',hr,a1,a2,a3,a4,a5,a6⟩:=run_storeCells_splice (P:=P) gb e (repL zl (m+1)) cur q 0 w hb (by simpa using hfit) h1
 have hrep:(Builtin.zeroCells z.cells (m+1)).toList=repL zl (m+1):=by
  have:=range_rep zl (m+1)
  unfold Builtin.zeroCells
  rw[hzl]
  have h2:=congrArg Array.toList this
  simpa using h2
 have hrun:(Builtin.clear_ #[t] ty #[.slice (some ⟨gb,q,none⟩) (m+1) c]).run P w= .ok (.tuple #[]) w':=by
  simp[Builtin.clear_,Sem.run_bind,run_underlying hu,hz,hrep,hr]
 unfold Oper.wp
 have hex:(execOp a.eval ⟨d,.call {callee:= .builtin .clear,args:=#[x],argTypes:=#[t]},ty,pos,aft,g⟩).run P w= .ok (.value (.tuple #[])) w':=by
  simp only[execOp,resolve,invoke,Go.builtin,Sem.run_bind,Sem.run_pure,Result.andThen_ok,List.map_toArray,List.map_cons,List.map_nil,e1,hrun]
 rw[hex]
 refine hk () _ trivial (hw.upd hU a1 a2 a3 a4 ?_ a6)
 rw[← hc];simpa using a5
end
section
variable {P:Program}{n:Nat}{B:Base}{ks:Ks}{sg:Sg}{d:Option Tmp}{ty:TypeId}{pos:String}{aft:Array Edge}{g:Option (Nat×Bool)}
theorem Eff.buildSlice0 {t e sz:Nat}(hu:P.underlying t=some (.slice e))(hs:∀w,(sizeOf e).run P w= .ok sz w):
 Eff P n B ⟨d,.buildSlice t 0 #[],ty,pos,aft,g⟩ ks sg (α:=Nat) (fun _=>True) (fun b=> .slice (some ⟨b,0,none⟩) 0 0) (fun b=>[(b,.cells ([]++[]).toArray e (0,0))]::sg):=
 Eff.new fun a w ha hw=>by
  show(do pure (Next.value (← Instr.buildSlice t 0 ((#[]:Array (Nat×Operand)).map fun(i,x)=>(i,a.eval x)))):Sem Next).run P w=_
  refine run_value ?_
  simp[Instr.buildSlice,Sem.run_bind,run_underlying hu,hs,Instr.fill,newRow,newObj,Sem.run,Result.andThen]
  rw[show ∀f:Nat→Value,(Array.range 0).map f=#[] from fun f=>Array.eq_empty_of_size_eq_zero (by simp)]
theorem Val.append0 {t e sz bytes:Nat}{z:Value}{x y:Operand}{b off m c c':Nat}{p:Option Addr}(hx:ev ks x=some (.slice (some ⟨b,off,none⟩) m c))(hy:ev ks y=some (.slice p 0 c'))(hu:P.underlying t=some (.slice e))(hi:(P.info? e).map (fun i=>(i.zero,i.size,i.bytes))=some (some z,sz,bytes))(hmc:m≤c):
 Val P n B ⟨d,.call {callee:= .builtin .append,args:=#[x,y],argTypes:=#[t,t]},ty,pos,aft,g⟩ ks sg (.slice (some ⟨b,off,none⟩) m c):=fun a w ha hw=>by
 have e1:=ha.ev hx
 have e2:=ha.ev hy
 cases hq:P.info? e with
 |none=>simp[hq] at hi
 |some inf=>
  have hf:(Builtin.firstCells inf.size 0 (.slice p 0 c')).run P w= .ok #[] w:=by
   cases p with
   |none=>simp[Builtin.firstCells]
   |some q=>have:=run_loadCells_list (P:=P) w q [] (fun j v hv=>by simp at hv);simpa[Builtin.firstCells] using this
  have hrun:(Builtin.append_ #[t,t] ty #[.slice (some ⟨b,off,none⟩) m c,.slice p 0 c']).run P w= .ok (.slice (some ⟨b,off,none⟩) m c) w:=by
   simp[Builtin.append_,run_underlying hu,sizeOf,typeInfo,hq,Builtin.lenOf,hmc,hf,storeCells]
  simp only[execOp,resolve,invoke,Go.builtin,Sem.run_bind,Sem.run_pure,Result.andThen_ok,List.map_toArray,List.map_cons,List.map_nil,e1,e2,hrun]
theorem Val.eqSlNil {t e t':TypeId}{x y:Operand}{p:Option Addr}{m c:Nat}(hx:ev ks x=some (.slice p m c))(hy:ev ks y=some (.slice none 0 0))(hu:P.underlying t=some (.slice e)):
 Val P n B ⟨d,.binOp .eql t x y t',ty,pos,aft,g⟩ ks sg (.bool p.isNone):=Val.bin hx hy fun w=>by
 show(do eqGuard .eql t x y (.slice p m c) (.slice none 0 0);(do pure (Value.bool (← Op.equal t (.slice p m c) (.slice none 0 0)))):Sem Value).run P w=_
 have h1:(eqGuard .eql t x y (.slice p m c) (.slice none 0 0)).run P w= .ok () w:=rfl
 simp only[Sem.run_bind,h1,run_equal_slice_nil w t e p m c hu,Sem.run_pure,Result.andThen_ok]
end
section
variable {P:Program}{n:Nat}{B:Base}{ks:Ks}{sg:Sg}{d:Option Tmp}{ty:TypeId}{pos:String}{aft:Array Edge}{g:Option (Nat×Bool)}
theorem Val.appendNil0 {t e sz bytes:Nat}{z:Value}{x y:Operand}{c':Nat}{p:Option Addr}(hx:ev ks x=some (.slice none 0 0))(hy:ev ks y=some (.slice p 0 c'))(hu:P.underlying t=some (.slice e))(hi:(P.info? e).map (fun i=>(i.zero,i.size,i.bytes))=some (some z,sz,bytes)):
 Val P n B ⟨d,.call {callee:= .builtin .append,args:=#[x,y],argTypes:=#[t,t]},ty,pos,aft,g⟩ ks sg (.slice none 0 0):=fun a w ha hw=>by
 have e1:=ha.ev hx
 have e2:=ha.ev hy
 cases hq:P.info? e with
 |none=>simp[hq] at hi
 |some inf=>
  have hf:(Builtin.firstCells inf.size 0 (.slice p 0 c')).run P w= .ok #[] w:=by
   cases p with
   |none=>simp[Builtin.firstCells]
   |some q=>have:=run_loadCells_list (P:=P) w q [] (fun j v hv=>by simp at hv);simpa[Builtin.firstCells] using this
  have hrun:(Builtin.append_ #[t,t] ty #[.slice none 0 0,.slice p 0 c']).run P w= .ok (.slice none 0 0) w:=by
   simp[Builtin.append_,run_underlying hu,sizeOf,typeInfo,hq,Builtin.lenOf,hf]
  simp only[execOp,resolve,invoke,Go.builtin,Sem.run_bind,Sem.run_pure,Result.andThen_ok,List.map_toArray,List.map_cons,List.map_nil,e1,e2,hrun]
end
section
variable {P:Program}{n:Nat}{B:Base}{ks:Ks}{sg:Sg}{d:Option Tmp}{ty:TypeId}{pos:String}{aft:Array Edge}{g:Option (Nat×Bool)}
def ownG (e:TypeId)(xs:List Value)(o:OwnO):Seg:=(ownS e xs o).flatten
theorem ownG_none {e:TypeId}{xs:List Value}:ownG e xs none=[]:=rfl
theorem ownG_some {e:TypeId}{xs:List Value}{gb c:Nat}{rest:List Value}:ownG e xs (some (gb,rest,c))=[(gb,.cells (xs++rest).toArray e (0,0))]:=rfl
theorem Eff.appendAny {t e sz bytes:Nat}{z:Value}{x y:Operand}{xs:List Value}{m0:Nat}{o:OwnO}{r:Sg}{p:Option Addr}{m c:Nat}(news:List Value)(hx:ev ks x=some (ownV m0 o))(hy:ev ks y=some (.slice p m c))(hu:P.underlying t=some (.slice e))(hi:(P.info? e).map (fun i=>(i.zero,i.size,i.bytes))=some (some z,sz,bytes))(hzs:z.cells.size=sz)(hsz:0<sz)
 {pk:Sg}(hp:Pick pk sg r)(hpk:pk.flatten=ownG e xs o)(hok:ownOk sz m0 xs o)(hl:news.length=m*sz)(hnews:0<m→∃b off,p=some ⟨b,off,none⟩∧∀w,Hp B sg w→w.rangeAt b off news)(h1:news.all (·.oneCell')=true)(hmax:(m0+m)*bytes≤140737488355328)(hmax2:m0+m≤9223372036854775807):
 Eff P n B ⟨d,.call {callee:= .builtin .append,args:=#[x,y],argTypes:=#[t,t]},ty,pos,aft,g⟩ ks sg (α:=OwnO) (fun o'=>ownOk sz (m0+m) (xs++news) o') (fun o'=>ownV (m0+m) o') (fun o'=>ownG e (xs++news) o'::r):=fun a w K Q ha hw hk=>by
 have hw2:Hp B (ownS e xs o++r) w:=hw.perm (by rw[List.flatten_append];have:=hp.perm';rwa [hpk] at this)
 have e1:=ha.ev hx
 have e2:=ha.ev hy
 by_cases hm:0<m
 ·obtain⟨b,off,rfl,hn⟩:=hnews hm
  obtain⟨o',w',hrun,h2,h3,h4⟩:=append_run (P:=P) (B:=B) (ty:=ty) hu hi hzs hsz hw2 hok (c:=c) hm hl (hn w hw) h1 hmax hmax2
  unfold Oper.wp
  have:(execOp a.eval ⟨d,.call {callee:= .builtin .append,args:=#[x,y],argTypes:=#[t,t]},ty,pos,aft,g⟩).run P w= .ok (.value (ownV (m0+m) o')) w':=by
   simp only[execOp,resolve,invoke,Go.builtin,Sem.run_bind,Sem.run_pure,Result.andThen_ok,List.map_toArray,List.map_cons,List.map_nil,e1,e2,hrun]
  rw[this]
  exact hk o' w' h2 (h4.perm (by rw[List.flatten_append];exact .refl _))
 ·have h0:m=0:=by omega
  subst h0
  have hnil:news=[]:=List.length_eq_zero_iff.1 (by omega)
  subst hnil
  have hv:Val P n B ⟨d,.call {callee:= .builtin .append,args:=#[x,y],argTypes:=#[t,t]},ty,pos,aft,g⟩ ks sg (ownV m0 o):=by
   rcases o with _|⟨gb,rest,cap⟩
   ·exact Val.appendNil0 hx hy hu hi
   ·refine Val.append0 hx hy hu hi ?_
    obtain⟨h2,h3⟩:=hok
    simp only at h3
    rw[h2] at h3
    exact Nat.le_of_mul_le_mul_right (by omega:m0*sz≤cap*sz) hsz
  unfold Oper.wp
  rw[hv a w ha hw]
  refine hk o w (by simpa using hok) (hw2.perm ?_)
  rw[List.append_nil,List.flatten_append]
  exact .refl _
end
def str (l:List UInt8):Value:= .string ⟨l.toArray⟩
abbrev byC (l:List UInt8):List Value:=Go.Lib.byteCells l
theorem byC_one (l:List UInt8):(byC l).all (·.oneCell')=true:=by
 simp only[byC,Go.Lib.byteCells,List.all_map,List.all_eq_true]
 intro x _;rfl
theorem byC_len (l:List UInt8):(byC l).length=l.length:=by simp[byC,Go.Lib.byteCells]
theorem byC_append (a b:List UInt8):byC (a++b)=byC a++byC b:=Go.Lib.byteCells_append a b
theorem str_size (l:List UInt8):(⟨l.toArray⟩:ByteArray).size=l.length:=by simp[ByteArray.size]
theorem str_get (l:List UInt8)(k:Nat):(⟨l.toArray⟩:ByteArray)[k]? =l[k]? :=by
 by_cases h:k<l.length
 ·rw[getElem?_pos (⟨l.toArray⟩:ByteArray) k (by rw[str_size];exact h),List.getElem?_eq_getElem h];rfl
 ·rw[getElem?_neg (⟨l.toArray⟩:ByteArray) k (by rw[str_size];exact h),List.getElem?_eq_none (by omega)]
theorem str_ext (s:ByteArray)(i j:Nat):s.extract i j=⟨((s.data.toList.drop i).take (j-i)).toArray⟩:=by
 apply ByteArray.ext
 apply Array.ext'
 simp[ByteArray.data_extract]
section
variable {P:Program}{n:Nat}{B:Base}{ks:Ks}{sg:Sg}{d:Option Tmp}{ty:TypeId}{pos:String}{aft:Array Edge}{g:Option (Nat×Bool)}
theorem Val.indexStr {t:TypeId}{x y:Operand}{k:IntKind}{i:Nat}{l:List UInt8}{u:UInt8}(hx:ev ks x=some (str l))(hy:ev ks y=some (.int k (i:Nat)))(hu:P.underlying t=some .string)(h:l[i]? =some u):
 Val P n B ⟨d,.index t x y,ty,pos,aft,g⟩ ks sg (.int .u8 (u.toNat:Nat)):=Val.indexS hx hy hu (by rw[str_get];exact h)
theorem run_sliceStr {t:TypeId}{L H:Nat}{l:List UInt8}{lo hi:Option Value}(hu:P.underlying t=some .string)(hlo:lo=none∧L=0∨∃k,lo=some (.int k (L:Nat)))(hhi:hi=none∧H=l.length∨∃k,hi=some (.int k (H:Nat)))
 (h1:L≤H)(h2:H≤l.length)(w:World):(Instr.slice t (str l) lo hi none).run P w= .ok (str ((l.drop L).take (H-L))) w:=by
 have key:(Instr.sliceBounds false l.length l.length lo hi none).run P w= .ok (L,H,l.length) w:=by
  rcases hhi with⟨rfl,rfl⟩|⟨k2,rfl⟩
  ·rcases hlo with⟨rfl,rfl⟩|⟨k1,rfl⟩
   ·simp[Instr.sliceBounds]
   ·simp[Instr.sliceBounds,run_sliceBound h1]
  ·rcases hlo with⟨rfl,rfl⟩|⟨k1,rfl⟩
   ·simp[Instr.sliceBounds,run_sliceBound h2]
   ·simp[Instr.sliceBounds,Sem.run_bind,run_sliceBound h2,run_sliceBound h1]
 have e3:(Instr.slice t (str l) lo hi none).run P w=((Instr.sliceBounds false l.length l.length lo hi none).run P w).andThen fun x w=> .ok (.string ((⟨l.toArray⟩:ByteArray).extract x.1 x.2.1)) w:=by
  unfold str
  simp[Instr.slice,run_underlying hu,Sem.run_bind,str_size]
 rw[e3,key]
 simp only[Result.andThen_ok,str_ext,str]
theorem Val.sliceStr {t:TypeId}{x:Operand}{lo hi:Option Operand}{l:List UInt8}(L H:Nat)(hx:ev ks x=some (str l))(hu:P.underlying t=some .string)(hlo:optI ks lo L 0)(hhi:optI ks hi H l.length)(h1:L≤H)(h2:H≤l.length):
 Val P n B ⟨d,.slice t x lo hi none,ty,pos,aft,g⟩ ks sg (str ((l.drop L).take (H-L))):=fun a w ha hw=>by
 have conv:∀{o:Option Operand} {v dflt:Nat},optI ks o v dflt→(o.map a.eval=none∧v=dflt)∨∃k,o.map a.eval=some (.int k (v:Nat)):=fun {o v dflt} h=>by
  cases o with
  |none=>exact .inl ⟨rfl,h⟩
  |some y=>obtain⟨k,hk⟩:=h;exact .inr ⟨k,by simp[ha.ev hk]⟩
 have hrun:=run_sliceStr (P:=P) (l:=l) hu (conv hlo) (conv hhi) h1 h2 w
 show(do pure (Next.value (← Instr.sliceAt t (a.eval x) (lo.map a.eval) (hi.map a.eval) none)):Sem Next).run P w=_
 rw[ha.ev hx]
 refine run_value ?_
 have:(Instr.sliceAt t (str l) (lo.map a.eval) (hi.map a.eval) none).run P w=(Instr.slice t (str l) (lo.map a.eval) (hi.map a.eval) none).run P w:=by
  simp only[Instr.sliceAt,Sem.run_bind,run_underlying hu,Result.andThen_ok]
 rw[this];exact hrun
theorem Val.catStr {t t':TypeId}{x y:Operand}{i j:List UInt8}(hx:ev ks x=some (str i))(hy:ev ks y=some (str j))(hlen:i.length+j.length≤140737488355328):Val P n B ⟨d,.binOp .add t x y t',ty,pos,aft,g⟩ ks sg (str (i++j)):=by
 have h:=Val.cat (P:=P) (n:=n) (B:=B) (sg:=sg) (d:=d) (ty:=ty) (pos:=pos) (aft:=aft) (g:=g) (t:=t) (t':=t') hx hy (by rw[str_size,str_size];omega)
 have e:(⟨i.toArray⟩:ByteArray)++⟨j.toArray⟩=⟨(i++j).toArray⟩:=by
  apply ByteArray.ext;simp
 rw[e] at h
 exact h
theorem str_inj {a b:List UInt8}:((⟨a.toArray⟩:ByteArray)=⟨b.toArray⟩)↔a=b:=by
 constructor
 ·intro h;injection h with h;exact List.toArray_inj h
 ·rintro rfl;rfl
theorem Val.eqStr {t t':TypeId}{x y:Operand}{i j:List UInt8}(hx:ev ks x=some (str i))(hy:ev ks y=some (str j)):Val P n B ⟨d,.binOp .eql t x y t',ty,pos,aft,g⟩ ks sg (.bool (decide (i=j))):=by
 have h:=Val.cmpS (P:=P) (n:=n) (B:=B) (sg:=sg) (d:=d) (ty:=ty) (pos:=pos) (aft:=aft) (g:=g) (op:= .eql) (t:=t) (t':=t') hx hy rfl
 have e:decide ((⟨i.toArray⟩:ByteArray)=⟨j.toArray⟩)=decide (i=j):=by simp
 rw[e] at h
 exact h
theorem Val.neStr {t t':TypeId}{x y:Operand}{i j:List UInt8}(hx:ev ks x=some (str i))(hy:ev ks y=some (str j)):Val P n B ⟨d,.binOp .neq t x y t',ty,pos,aft,g⟩ ks sg (.bool (!decide (i=j))):=by
 have h:=Val.cmpS (P:=P) (n:=n) (B:=B) (sg:=sg) (d:=d) (ty:=ty) (pos:=pos) (aft:=aft) (g:=g) (op:= .neq) (t:=t) (t':=t') hx hy rfl
 have e:decide ((⟨i.toArray⟩:ByteArray)=⟨j.toArray⟩)=decide (i=j):=by simp
 rw[e] at h
 exact h
theorem Val.lenStr {x:Operand}{t:TypeId}{l:List UInt8}(hx:ev ks x=some (str l))(hu:P.underlying t=some .string):Val P n B ⟨d,.call {callee:= .builtin .len,args:=#[x],argTypes:=#[t]},ty,pos,aft,g⟩ ks sg (.int .i64 (l.length:Nat)):=by
 have h:=Val.lenS (P:=P) (n:=n) (B:=B) (sg:=sg) (d:=d) (ty:=ty) (pos:=pos) (aft:=aft) (g:=g) (t:=t) hx hu
 rw[str_size] at h
 exact h
theorem Val.lenOwn {x:Operand}{t e sz m:Nat}{xs:List Value}{o:OwnO}(hx:ev ks x=some (ownV m o))(hu:P.underlying t=some (.slice e))(hok:ownOk sz m xs o):Val P n B ⟨d,.call {callee:= .builtin .len,args:=#[x],argTypes:=#[t]},ty,pos,aft,g⟩ ks sg (.int .i64 (m:Nat)):=by
 rcases o with _|⟨gb,rest,cap⟩
 ·have h0:m=0:=hok.2
  subst h0
  exact Val.lenSl hx hu
 ·exact Val.lenSl hx hu
theorem Val.convBytes {src dst e:TypeId}{x:Operand}{l:List UInt8}{o:OwnO}(hx:ev ks x=some (ownV l.length o))(hs:P.underlying src=some (.slice e))(he:P.underlying e=some (.int .u8))(hd:P.underlying dst=some .string)(hok:ownOk 1 l.length (byC l) o)
 {pk r:Sg}(hp:Pick pk sg r)(hpk:pk.flatten=ownG e (byC l) o):Val P n B ⟨d,.convert src dst x,ty,pos,aft,g⟩ ks sg (str l):=fun a w ha hw=>by
 have hw2:Hp B (ownS e (byC l) o++r) w:=hw.perm (by rw[List.flatten_append];have:=hp.perm';rwa [hpk] at this)
 show(do pure (Next.value (← convert src dst (a.eval x))):Sem Next).run P w=_
 rw[ha.ev hx]
 refine run_value ?_
 rcases o with _|⟨gb,rest,cap⟩
 ·have h0:l.length=0:=hok.2
  have:l=[]:=List.length_eq_zero_iff.1 h0
  subst this
  exact run_convert_bytes_nil w src e hs he 0 0 dst hd
 ·have hown:=hw2.own (gb,.cells (byC l++rest).toArray e (0,0)) (by simp[ownS])
  simp only at hown
  refine run_convert_bytes_back w src dst e ⟨gb,0,none⟩ cap l hs he hd (fun j hj=>?_)
  rw[Addr.add_mid]
  refine cell_of_block hown ?_
  rw[Nat.zero_add,List.getElem?_append_left (by rw[byC_len];exact hj)]
  simp[byC,Go.Lib.byteCells,hj]
end
section
variable {P:Program}{n:Nat}{B:Base}{ks:Ks}{sg:Sg}{d:Option Tmp}{ty:TypeId}{pos:String}{aft:Array Edge}{g:Option (Nat×Bool)}
theorem Eff.appendOwn {t e sz bytes:Nat}{z:Value}{x y:Operand}{xs ys:List Value}{m0 m:Nat}{o oy:OwnO}{r r2:Sg}(hx:ev ks x=some (ownV m0 o))(hy:ev ks y=some (ownV m oy))(hu:P.underlying t=some (.slice e))(hi:(P.info? e).map (fun i=>(i.zero,i.size,i.bytes))=some (some z,sz,bytes))(hzs:z.cells.size=sz)(hsz:0<sz)
 {pk pk2:Sg}(hp:Pick pk sg r)(hpk:pk.flatten=ownG e xs o)(hok:ownOk sz m0 xs o)(hp2:Pick pk2 sg r2)(hpk2:pk2.flatten=ownG e ys oy)(hoky:ownOk sz m ys oy)(h1:ys.all (·.oneCell')=true)(hmax:(m0+m)*bytes≤140737488355328)(hmax2:m0+m≤9223372036854775807):
 Eff P n B ⟨d,.call {callee:= .builtin .append,args:=#[x,y],argTypes:=#[t,t]},ty,pos,aft,g⟩ ks sg (α:=OwnO) (fun o'=>ownOk sz (m0+m) (xs++ys) o') (fun o'=>ownV (m0+m) o') (fun o'=>ownG e (xs++ys) o'::r):=by
 rcases oy with _|⟨gy,resty,capy⟩
 ·have h0:m=0:=hoky.2
  subst h0
  exact Eff.appendAny ys hx hy hu hi hzs hsz hp hpk hok hoky.1 (fun hm=>by omega) h1 hmax hmax2
 ·refine Eff.appendAny ys hx hy hu hi hzs hsz hp hpk hok hoky.1 (fun hm=>⟨gy,0,rfl,fun w hw=>?_⟩) h1 hmax hmax2
  have hw2:Hp B (ownS e ys (some (gy,resty,capy))++r2) w:=hw.perm (by rw[List.flatten_append];have:=hp2.perm';rwa [hpk2] at this)
  exact range_of_block (o:=0) (cs:=ys) (r:=resty) (hw2.own (gy,.cells (ys++resty).toArray e (0,0)) (by simp[ownS])) rfl
end
end Go.Proofs.YtjidffamcdcecaaGreat.V
namespace Go.Proofs.YtjidffamcdcecaaGreat.V
open Go Go.RowKit Go.MapKept
open Go.ChangeMaps (setBlock)
set_option linter.unusedVariables false
def itO (b c:Nat)(D:ME):Obj:= .mapIter (some b) c ((D.map (·.1)).toArray) c
structure Stp (E:ME)(c:Nat):Prop where
 lt:∀e∈E,e.1<c
 nd:(E.map (·.1)).Nodup
theorem Stp.nil (c:Nat):Stp [] c:=⟨by simp,by simp⟩
theorem mupd_stamps (k:ByteArray)(v:Value):∀E:ME,(mupd E k v).map (·.1)=E.map (·.1)
 |[]=>rfl
 |e::r=>by
  simp only[mupd]
  split
  ·simp
  ·simp[mupd_stamps k v r]
theorem Stp.put {E:ME}{c:Nat}(h:Stp E c)(k:ByteArray)(v:Value):Stp (mput E k v c) (mclk E k c):=by
 unfold mput mclk
 split
 ·refine⟨fun e he=>?_,by rw[mupd_stamps];exact h.nd⟩
  have h1:e.1∈(mupd E k v).map (·.1):=List.mem_map_of_mem he
  rw[mupd_stamps] at h1
  obtain⟨x,hx,hx1⟩:=List.mem_map.1 h1
  rw[← hx1];exact h.lt x hx
 ·refine⟨fun e he=>?_,?_⟩
  ·rcases List.mem_append.1 he with he|he
   ·have:=h.lt e he;omega
   ·simp at he;subst he;simp
  ·rw[List.map_append,List.nodup_append]
   refine⟨h.nd,by simp,fun a ha b hb=>?_⟩
   simp at hb
   obtain⟨x,hx,rfl⟩:=List.mem_map.1 ha
   have:=h.lt x hx
   omega
theorem Stp.del {E:ME}{c:Nat}(h:Stp E c)(k:ByteArray):Stp (mdel E k) c:=
 ⟨fun e he=>h.lt e ((mdel_sub k E).subset he),((mdel_sub k E).map _).nodup h.nd⟩
theorem stamp_inj {E:ME}(h:(E.map (·.1)).Nodup){x y:Nat×ByteArray×Value}(hx:x∈E)(hy:y∈E)(e:x.1=y.1):x=y:=by
 induction E with
 |nil=>simp at hx
 |cons a r ih=>
  simp only[List.map_cons,List.nodup_cons] at h
  rcases List.mem_cons.1 hx with hx1|hx1
  ·rcases List.mem_cons.1 hy with hy1|hy1
   ·rw[hx1,hy1]
   ·exact absurd (List.mem_map_of_mem (f:=(·.1)) hy1) (by rw[← e,hx1];exact h.1)
  ·rcases List.mem_cons.1 hy with hy1|hy1
   ·exact absurd (List.mem_map_of_mem (f:=(·.1)) hx1) (by rw[e,hy1];exact h.1)
   ·exact ih h.2 hx1 hy1
theorem len_le_of_nodup {α:Type}:∀{D E:List α},D.Nodup→(∀e∈D,e∈E)→D.length≤E.length
 |[],_,_,_=>Nat.zero_le _
 |a::r,E,h,hs=>by
  obtain⟨s,t,rfl⟩:=List.append_of_mem (hs a (by simp))
  simp only[List.nodup_cons] at h
  have:=len_le_of_nodup (D:=r) (E:=s++t) h.2 (fun x hx=>by
   have h1:=hs x (by simp[hx])
   simp only[List.mem_append,List.mem_cons] at h1⊢
   rcases h1 with h1|rfl|h1
   ·exact .inl h1
   ·exact absurd hx h.1
   ·exact .inr h1)
  simp at this⊢;omega
theorem nodup_of_stamps {E:ME}(h:(E.map (·.1)).Nodup):E.Nodup:=by
 induction E with
 |nil=>simp
 |cons a r ih=>
  simp only[List.map_cons,List.nodup_cons] at h⊢
  exact⟨fun ha=>h.1 (List.mem_map_of_mem ha),ih h.2⟩
structure Vis (E D:ME):Prop where
 sub:∀e∈D,e∈E
 nd:(D.map (·.1)).Nodup
theorem Vis.nil (E:ME):Vis E []:=⟨by simp,by simp⟩
theorem Vis.snoc {E D:ME}{e:Nat×ByteArray×Value}(h:Vis E D)(he:e∈E)(hn:e.1∉D.map (·.1)):Vis E (D++[e]):=by
 refine⟨fun x hx=>?_,?_⟩
 ·rcases List.mem_append.1 hx with hx|hx
  ·exact h.sub x hx
  ·simp at hx;subst hx;exact he
 ·rw[List.map_append,List.nodup_append]
  refine⟨h.nd,by simp,fun a ha b hb=>?_⟩
  simp at hb;subst hb
  intro e1;subst e1;exact hn ha
theorem Vis.le {E D:ME}(h:Vis E D):D.length≤E.length:=
 len_le_of_nodup (nodup_of_stamps h.nd) (fun e he=>h.sub e he)
theorem Vis.lt {E D:ME}{e:Nat×ByteArray×Value}(h:Vis E D)(he:e∈E)(hn:e.1∉D.map (·.1)):D.length<E.length:=by
 have:=(h.snoc he hn).le
 simp at this;omega
theorem Vis.perm {E D:ME}(h:Vis E D)(hE:(E.map (·.1)).Nodup)(ha:∀e∈E,e.1∈D.map (·.1)):D.Perm E:=by
 refine(List.perm_ext_iff_of_nodup (nodup_of_stamps h.nd) (nodup_of_stamps hE)).2 fun e=>⟨h.sub e,fun he=>?_⟩
 obtain⟨x,hx,hx1⟩:=List.mem_map.1 (ha e he)
 rwa [← stamp_inj hE (h.sub x hx) he hx1]
section
variable {P:Program}{n:Nat}{B:Base}{ks:Ks}{sg:Sg}{d:Option Tmp}{ty:TypeId}{pos:String}{aft:Array Edge}{g:Option (Nat×Bool)}
theorem Eff.range {t kt et:TypeId}{x:Operand}{b c:Nat}{E:ME}(hx:ev ks x=some (.map (some b)))(hu:P.underlying t=some (.map kt et))(hm:InS (b,mpO E c) sg):
 Eff P n B ⟨d,.range t x,ty,pos,aft,g⟩ ks sg (α:=Nat) (fun _=>True) (fun r=> .pointer (some ⟨r,0,none⟩)) (fun r=>[(r,itO b c [])]::sg):=
 Eff.new (f:=fun r=> .pointer (some ⟨r,0,none⟩)) fun a w ha hw=>by
  have hb:w.heap[b]? =some (.map (E.map mE).toArray c):=hw.own _ hm.mem
  have e:=ha.ev hx
  have h1:=run_range_map w t kt et b (E.map mE).toArray c hu hb
  show(do pure (Next.value (← Instr.range t (a.eval x))):Sem Next).run P w=_
  rw[e]
  exact run_value h1
theorem Eff.next {x:Operand}{r b c:Nat}{E D:ME}{sg':Nat×ByteArray×Value→Sg}(hx:ev ks x=some (.pointer (some ⟨r,0,none⟩)))(hm:InS (b,mpO E c) sg)(hs:Stp E c)(hU:∀e,Upd r (itO b c D) (itO b c (D++[e])) sg (sg' e)):
 Eff P n B ⟨d,.next x false,ty,pos,aft,g⟩ ks sg (α:=Option (Nat×ByteArray×Value)) (fun o=>match o with|none=>∀e∈E,e.1∈D.map (·.1)|some e=>e∈E∧e.1∉D.map (·.1))
  (fun o=>match o with|none=> .tuple #[.bool false]|some e=> .tuple #[.bool true,.string e.2.1,e.2.2]) (fun o=>match o with|none=>sg|some e=>sg' e):=fun a w K Q ha hw hk=>by
 have hb:w.heap[b]? =some (.map (E.map mE).toArray c):=hw.own _ hm.mem
 have hr:=hw.own _ (hU (0,⟨#[]⟩,undef)).mem
 simp only[itO] at hr
 have e:=ha.ev hx
 have hold:∀y∈(E.map mE).toArray.toList,y.born<c:=fun y hy=>by
  simp only[List.mem_map] at hy
  obtain⟨z,hz,rfl⟩:=hy
  exact hs.lt z hz
 unfold Oper.wp
 rcases run_next_at (P:=P) w ty r b c c _ _ c hr hb hold (Nat.le_refl _) with⟨h0,hrun⟩|⟨y,hy,w1,hal,hrun⟩
 ·have:(execOp a.eval ⟨d,.next x false,ty,pos,aft,g⟩).run P w= .ok (.value (.tuple #[.bool false])) w:=by
   show(do pure (Next.value (← Instr.next (a.eval x) false ty)):Sem Next).run P w=_
   rw[e];exact run_value hrun
  rw[this]
  refine hk none w (fun y hy=>?_) hw
  by_cases hin:y.1∈D.map (·.1)
  ·exact hin
  ·exfalso
   have hmem:mE y∈(leftOf (E.map mE).toArray ((D.map (·.1)).toArray)).toList:=by
    unfold leftOf
    simp only[List.filter_toArray,List.toList_toArray,List.mem_filter]
    refine⟨List.mem_map_of_mem hy,?_⟩
    simp only[List.contains_toArray,Bool.not_eq_true',mE]
    simpa using hin
   have:=List.length_pos_of_mem hmem
   simp only[Array.length_toList] at this
   omega
 ·unfold leftOf at hy
  simp only[List.filter_toArray,List.toList_toArray,List.mem_filter] at hy
  obtain⟨hy1,hy2⟩:=hy
  obtain⟨z,hz,rfl⟩:=List.mem_map.1 hy1
  have hz2:z.1∉D.map (·.1):=by
   simp only[List.contains_toArray,Bool.not_eq_true',mE] at hy2
   simpa using hy2
  have:(execOp a.eval ⟨d,.next x false,ty,pos,aft,g⟩).run P w= .ok (.value (.tuple #[.bool true,.string z.2.1,z.2.2])) (setBlock w1 r (.mapIter (some b) c (((D.map (·.1)).toArray).push z.1) c)):=by
   show(do pure (Next.value (← Instr.next (a.eval x) false ty)):Sem Next).run P w=_
   rw[e];exact run_value hrun
  rw[this]
  have hw1:Hp B sg w1:=by
   rcases hal with rfl|rfl
   ·exact hw
   ·exact⟨hw.os,hw.tape,hw.output,hw.size,hw.old,hw.own,hw.lo,hw.nd⟩
  have hr1:=hw1.own _ (hU z).mem
  have hset:=heap_set (o':= .mapIter (some b) c (((D.map (·.1)).toArray).push z.1) c) hr1
  refine hk (some z) _ ⟨hz,hz2⟩ (hw1.upd (hU z) rfl rfl rfl (by simp[setBlock]) ?_ (fun k hk=>hset.2 k hk))
  refine Eq.trans hset.1 ?_
  simp[itO]
theorem Val.entry {x:Operand}{r b c:Nat}{E D:ME}{e:Nat×ByteArray×Value}(hx:ev ks x=some (.pointer (some ⟨r,0,none⟩)))(hr:InS (r,itO b c (D++[e])) sg)(hm:InS (b,mpO E c) sg)(he:e∈E)(hn:(E.map (·.1)).Nodup):
 Val P n B ⟨d,.entry x,ty,pos,aft,g⟩ ks sg (.tuple [.string e.2.1,e.2.2].toArray):=fun a w ha hw=>by
 have hb:w.heap[b]? =some (.map (E.map mE).toArray c):=hw.own _ hm.mem
 have h1:=hw.own _ hr.mem
 simp only[itO,List.map_append,List.map_cons,List.map_nil] at h1
 have ee:=ha.ev hx
 show(do pure (Next.value (← Instr.entry (a.eval x))):Sem Next).run P w=_
 rw[ee]
 refine run_value (run_entry_at (P:=P) w r b c ((D.map (·.1)).toArray) (E.map mE).toArray c (mE e) ?_ hb (by simp;exact⟨_,_,_,he,rfl⟩) ?_)
 ·rw[h1];simp[mE]
 ·simp only[List.map_map]
  exact hn
end
end Go.Proofs.YtjidffamcdcecaaGreat.V
namespace Go.Proofs.YtjidffamcdcecaaGreat.V
open Go Go.RowKit
set_option linter.unusedVariables false
section
variable {P:Program}{n:Nat}{B:Base}{ks:Ks}{sg:Sg}{d:Option Tmp}{ty:TypeId}{pos:String}{aft:Array Edge}{g:Option (Nat×Bool)}
theorem str_less (i j:List UInt8):Op.bytesLess (⟨i.toArray⟩:ByteArray).toList (⟨j.toArray⟩:ByteArray).toList=decide (i<j):=by
 rw[ByteArray.toList_eq,ByteArray.toList_eq,Go.Proofs.bytesLess_eq]
theorem str_dec (i j:List UInt8):decide ((⟨i.toArray⟩:ByteArray)=⟨j.toArray⟩)=decide (i=j):=by simp
theorem Val.ltStr {t t':TypeId}{x y:Operand}{i j:List UInt8}(hx:ev ks x=some (str i))(hy:ev ks y=some (str j)):Val P n B ⟨d,.binOp .lss t x y t',ty,pos,aft,g⟩ ks sg (.bool (decide (i<j))):=by
 have h:=Val.cmpS (P:=P) (n:=n) (B:=B) (sg:=sg) (d:=d) (ty:=ty) (pos:=pos) (aft:=aft) (g:=g) (op:= .lss) (t:=t) (t':=t') hx hy rfl
 rw[str_less] at h
 exact h
theorem gt_dec (i j:List UInt8):(!(decide (i<j)||decide (i=j)))=decide (j<i):=by
 rw[Bool.eq_iff_iff]
 simp only[Bool.not_eq_true',Bool.or_eq_false_iff,decide_eq_false_iff_not,decide_eq_true_eq,List.not_lt]
 constructor
 ·rintro⟨h1,h2⟩
  rcases List.le_iff_lt_or_eq.1 h1 with h|h
  ·exact h
  ·exact absurd h.symm h2
 ·intro h
  exact⟨List.le_of_lt h,fun e=>by subst e;exact List.lt_irrefl _ h⟩
theorem Val.gtStr {t t':TypeId}{x y:Operand}{i j:List UInt8}(hx:ev ks x=some (str i))(hy:ev ks y=some (str j)):Val P n B ⟨d,.binOp .gtr t x y t',ty,pos,aft,g⟩ ks sg (.bool (decide (j<i))):=by
 have h:=Val.cmpS (P:=P) (n:=n) (B:=B) (sg:=sg) (d:=d) (ty:=ty) (pos:=pos) (aft:=aft) (g:=g) (op:= .gtr) (t:=t) (t':=t') hx hy rfl
 rw[str_less,str_dec,gt_dec] at h
 exact h
theorem Val.callX {v:Value}{f:FuncId}{xs:List Operand}{vs:List Value}{ats:Array TypeId}(hxs:evs ks xs=some vs)(h:∀w,Hp B sg w→(callFunc f vs.toArray).run P w= .ok (.value v) w):
 Val P n B ⟨d,.call {callee:= .value (.func f),args:=xs.toArray,argTypes:=ats},ty,pos,aft,g⟩ ks sg v:=fun a w ha hw=>by
 have hm:=ha.evs hxs
 simp only[execOp,resolve,Act.eval,Deferred.ofValue,Sem.run_bind,Sem.run_pure,Result.andThen_ok,invoke,List.map_toArray,hm]
 simp[h w hw]
theorem run_copyN (w:World)(dT sT ty elem:TypeId)(g o dLen dCap:Nat)(a:Addr)(sLen sCap m sz:Nat)(cur:Array Value)(t:TypeId)(cs:List Value)
 (hu:P.underlying dT=some (.slice elem))(hs:(P.info? elem).map (·.size)=some sz)
 (hg:w.heap[g]? =some (.cells cur t (0,0)))(hm:Nat.min sLen dLen=m)(hn:cs.length=m*sz)
 (hsrc:∀j v,cs[j]? =some v→w.cell? (a.add j)=some v)(hfit:o+cs.length≤cur.size)(h1:∀v∈cs,v.oneCell'=true):
 (Builtin.copy_ #[dT,sT] ty #[.slice (some ⟨g,o,none⟩) dLen dCap,.slice (some a) sLen sCap]).run P w=
  .ok (goInt m) (w.setRow g (cur.toList.take o++cs++cur.toList.drop (o+cs.length)).toArray):=by
 have hl:=run_loadCells_list (P:=P) w a cs hsrc
 have hst:=run_storeCells_at P g o t cs 0 cur w hg (by simpa using hfit) h1
 cases hq:P.info? elem with
 |none=>simp[hq] at hs
 |some i=>
  have hi:i.size=sz:=by simpa[hq] using hs
  simp[Builtin.copy_,run_underlying hu,Builtin.lenOf,Builtin.firstCells,sizeOf,typeInfo,hq,hi,hm,← hn,hl,hst]
theorem Eff.copy {t t2 e sz gb o dl dc sl sc m:Nat}{a:Addr}{x y:Operand}{cur cs cells':List Value}{sg':Sg}(hx:ev ks x=some (.slice (some ⟨gb,o,none⟩) dl dc))(hy:ev ks y=some (.slice (some a) sl sc))(hu:P.underlying t=some (.slice e))(hs:(P.info? e).map (·.size)=some sz)
 (hU:Upd gb (.cells cur.toArray e (0,0)) (.cells cells'.toArray e (0,0)) sg sg')(hc:cur.take o++cs++cur.drop (o+cs.length)=cells')(hm:Nat.min sl dl=m)(hn:cs.length=m*sz)(hsrc:∀w,Hp B sg w→∀j v,cs[j]? =some v→w.cell? (a.add j)=some v)(hfit:o+cs.length≤cur.length)(h1:cs.all (·.oneCell')=true):
 Eff P n B ⟨d,.call {callee:= .builtin .copy,args:=#[x,y],argTypes:=#[t,t2]},ty,pos,aft,g⟩ ks sg (α:=Unit) (fun _=>True) (fun _=> .int .i64 (m:Nat)) (fun _=>sg'):=fun ac w K Q ha hw hk=>by
 have e1:=ha.ev hx
 have e2:=ha.ev hy
 have hb:=hw.own _ hU.mem
 simp only at hb
 have hrun:=run_copyN (P:=P) w t t2 ty e gb o dl dc a sl sc m sz cur.toArray e cs hu hs hb hm hn (hsrc w hw) (by simpa using hfit) (fun v hv=>List.all_eq_true.1 h1 v hv)
 simp only[hc] at hrun
 unfold Oper.wp
 have hex:(execOp ac.eval ⟨d,.call {callee:= .builtin .copy,args:=#[x,y],argTypes:=#[t,t2]},ty,pos,aft,g⟩).run P w= .ok (.value (.int .i64 (m:Nat))) (w.setRow gb cells'.toArray):=by
  simp only[execOp,resolve,invoke,Go.builtin,Sem.run_bind,Sem.run_pure,Result.andThen_ok,List.map_toArray,List.map_cons,List.map_nil,e1,e2,hrun]
  rfl
 rw[hex]
 refine hk () _ trivial (hw.upd hU rfl rfl rfl (by simp[World.setRow]) ?_ (fun k hk=>?_))
 ·simp[World.setRow,Array.getElem?_modify,hb]
 ·simp[World.setRow,Array.getElem?_modify,Ne.symm hk]
theorem Val.sliceG {t e sz m c:Nat}{q:Option Addr}{x:Operand}{lo hi mx:Option Operand}(L Hh M:Nat)(hx:ev ks x=some (.slice q m c))(hu:P.underlying t=some (.slice e))(hs:∀w,(sizeOf e).run P w= .ok sz w)
 (hlo:optI ks lo L 0)(hhi:optI ks hi Hh m)(hmx:optI ks mx M c)(hno:hi=none→mx=none)(h1:L≤Hh)(h2:Hh≤M)(h3:M≤c):
 Val P n B ⟨d,.slice t x lo hi mx,ty,pos,aft,g⟩ ks sg (.slice (if M=L then q else q.map (·.add (L*sz))) (Hh-L) (M-L)):=fun a w ha hw=>by
 have conv:∀{o:Option Operand} {v dflt:Nat},optI ks o v dflt→(o.map a.eval=none∧v=dflt∧o=none)∨∃k,o.map a.eval=some (.int k (v:Nat)):=fun {o v dflt} h=>by
  cases o with
  |none=>exact .inl ⟨rfl,h,rfl⟩
  |some y=>obtain⟨k,hk⟩:=h;exact .inr ⟨k,by simp[ha.ev hk]⟩
 have key:∀{lo hi mx:Option Value},(lo=none∧L=0∨∃k,lo=some (.int k (L:Nat)))→(hi=none∧Hh=m∧mx=none∨∃k,hi=some (.int k (Hh:Nat)))→(mx=none∧M=c∨∃k,mx=some (.int k (M:Nat)))→(Instr.sliceBounds true m c lo hi mx).run P w= .ok (L,Hh,M) w:=by
  intro lo hi mx hlo hhi hmx
  rcases hmx with⟨rfl,rfl⟩|⟨k3,rfl⟩
  ·rcases hhi with⟨rfl,rfl,_⟩|⟨k2,rfl⟩
   ·rcases hlo with⟨rfl,rfl⟩|⟨k1,rfl⟩
    ·simp[Instr.sliceBounds]
    ·simp[Instr.sliceBounds,run_sliceBound h1]
   ·rcases hlo with⟨rfl,rfl⟩|⟨k1,rfl⟩
    ·simp[Instr.sliceBounds,run_sliceBound h2]
    ·simp[Instr.sliceBounds,Sem.run_bind,run_sliceBound h2,run_sliceBound h1]
  ·rcases hhi with⟨_,_,h⟩|⟨k2,rfl⟩
   ·cases h
   ·rcases hlo with⟨rfl,rfl⟩|⟨k1,rfl⟩
    ·simp[Instr.sliceBounds,Sem.run_bind,run_sliceBound h2,run_sliceBound h3]
    ·simp[Instr.sliceBounds,Sem.run_bind,run_sliceBound h2,run_sliceBound h1,run_sliceBound h3]
 have hrun:(Instr.slice t (.slice q m c) (lo.map a.eval) (hi.map a.eval) (mx.map a.eval)).run P w= .ok (.slice (if M=L then q else q.map (·.add (L*sz))) (Hh-L) (M-L)) w:=by
  have hk:=key (lo:=lo.map a.eval) (hi:=hi.map a.eval) (mx:=mx.map a.eval) (by
   rcases conv hlo with⟨p,q,_⟩|⟨k,p⟩
   ·exact .inl ⟨p,q⟩
   ·exact .inr ⟨k,p⟩) (by
   rcases conv hhi with⟨p,q,r⟩|⟨k,p⟩
   ·exact .inl ⟨p,q,by rw[hno r];rfl⟩
   ·exact .inr ⟨k,p⟩) (by
   rcases conv hmx with⟨p,q,_⟩|⟨k,p⟩
   ·exact .inl ⟨p,q⟩
   ·exact .inr ⟨k,p⟩)
  simp only[Instr.slice,Sem.run_bind,run_underlying hu,Result.andThen_ok,hk,hs,Sem.run_pure]
 show(do pure (Next.value (← Instr.sliceAt t (a.eval x) (lo.map a.eval) (hi.map a.eval) (mx.map a.eval))):Sem Next).run P w=_
 rw[ha.ev hx]
 refine run_value ?_
 simp only[Instr.sliceAt,Sem.run_bind,run_underlying hu,Result.andThen_ok]
 exact hrun
theorem slAt_part {α:Type}{w:World}{p:Option Addr}{c k sz:Nat}{enc:α→List Value}{L:List α}(h:slAt w p sz enc L)(hk:k≤L.length)(hc:L.length≤c)(m:Nat):slAt w (if c=k then p else p.map (·.add (k*sz))) sz enc ((L.drop k).take m):=by
 rcases h with h|⟨b,o,rfl,hb,hr⟩
 ·left;rw[h];simp
 ·by_cases e:c=k
  ·left;rw[show L.drop k=[] from List.drop_eq_nil_iff.2 (by omega)];simp
  ·rw[if_neg e]
   refine .inr ⟨b,o+k*sz,by simp[Addr.add_mid],hb,fun i x hx=>?_⟩
   have hi:i<m:=by have:=(List.getElem?_eq_some_iff.1 hx).1;rw[List.length_take] at this;omega
   rw[List.getElem?_take_of_lt hi,List.getElem?_drop] at hx
   have:=hr (k+i) x hx
   rw[show o+k*sz+i*sz=o+(k+i)*sz by rw[Nat.add_mul];omega]
   exact this
end
section
variable {P:Program}{n:Nat}{B:Base}{ks:Ks}{sg:Sg}{d:Option Tmp}{ty:TypeId}{pos:String}{aft:Array Edge}{g:Option (Nat×Bool)}
theorem Val.capSl {x:Operand}{t:TypeId}{e:TypeId}{p:Option Addr}{m c:Nat}(hx:ev ks x=some (.slice p m c))(hu:P.underlying t=some (.slice e)):Val P n B ⟨d,.call {callee:= .builtin .cap,args:=#[x],argTypes:=#[t]},ty,pos,aft,g⟩ ks sg (.int .i64 (c:Nat)):=fun a w ha hw=>by
 have e:=ha.ev hx
 simp[execOp,resolve,invoke,Go.builtin,Builtin.cap_,e,goInt,run_underlying hu]
theorem Eff.appendMake {t tn e sz bytes:Nat}{kn:IntKind}{z:Value}{zl:List Value}{x y:Operand}{b i cap k:Nat}{olds:List Value}(hx:ev ks x=some (.slice (some ⟨b,0,none⟩) i cap))(hy:ev ks y=some (.int .i64 (k:Nat)))(hu:P.underlying t=some (.slice e))(hun:P.underlying tn=some (.int kn))
 (hi:(P.info? e).map (fun i=>(i.zero,i.size,i.bytes))=some (some z,sz,bytes))(hzl:z.cells=zl.toArray)(hzs:zl.length=sz)(hsz:0<sz)(hol:olds.length=i*sz)(hold:∀w,Hp B sg w→w.rangeAt b 0 olds)(hk:0<k)(hg:cap<i+k)(hmax:(i+k)*bytes≤140737488355328)(hmax2:i+k≤9223372036854775807):
 Eff P n B ⟨d,.call {callee:= .builtin .append,args:=#[x,y],argTypes:=#[t,tn]},ty,pos,aft,g⟩ ks sg (α:=OwnO) (fun o'=>ownOk sz (i+k) (olds++repL zl k) o'∧o'.isSome=true) (fun o'=>ownV (i+k) o') (fun o'=>ownG e (olds++repL zl k) o'::sg):=fun a w K Q ha hw hK=>by
 have e1:=ha.ev hx
 have e2:=ha.ev hy
 cases hq:P.info? e with
 |none=>simp[hq] at hi
 |some inf=>
  simp only[hq,Option.map_some,Option.some.injEq,Prod.mk.injEq] at hi
  obtain⟨hz,hs,hb⟩:=hi
  have hrng:=hold w hw
  have hdrew:∀j v,olds[j]? =some v→w.drew.cell? ((⟨b,0,none⟩:Addr).add j)=some v:=fun j v h=>by rw[Addr.add_mid];exact hrng j v h
  have hfc:=run_firstCells_some (P:=P) (w:=w.drew) inf.size i ⟨b,0,none⟩ i cap olds (by rw[hs];exact hol) hdrew
  have hkb:k*inf.bytes≤281474976710656:=by
   have:k*bytes≤(i+k)*bytes:=Nat.mul_le_mul_right _ (by omega)
   rw[hb];omega
  have hrun:=Go.Lib.run_append_grow_zeros (P:=P) w t tn ty e inf z .i64 kn hu hun hq hz (some ⟨b,0,none⟩) i cap olds hfc k hk (by rw[hs];exact hsz) hg (by omega) hkb (growslice_fits hg (by rw[hb];exact hmax))
  have hge:=grownCap_ge w (i+k) cap e
  have hzc:∀m,Builtin.zeroCells z.cells m=(repL zl m).toArray:=fun m=>by
   unfold Builtin.zeroCells
   rw[hzl]
   exact range_rep zl m
  rw[hzc,hzc] at hrun
  have hcells:(olds.toArray++(repL zl k).toArray++(repL zl (grownCap w (i+k) cap e-(i+k))).toArray)=((olds++repL zl k)++repL zl (grownCap w (i+k) cap e-(i+k))).toArray:=by simp
  rw[hcells] at hrun
  unfold Oper.wp
  have:(execOp a.eval ⟨d,.call {callee:= .builtin .append,args:=#[x,y],argTypes:=#[t,tn]},ty,pos,aft,g⟩).run P w= .ok (.value (.slice (some ⟨w.heap.size,0,none⟩) (i+k) (grownCap w (i+k) cap e))) (w.drew.alloc (.cells ((olds++repL zl k)++repL zl (grownCap w (i+k) cap e-(i+k))).toArray e (0,0))):=by
   simp only[execOp,resolve,invoke,Go.builtin,Sem.run_bind,Sem.run_pure,Result.andThen_ok,List.map_toArray,List.map_cons,List.map_nil,e1,e2,hrun]
  rw[this]
  refine hK (some (w.heap.size,repL zl (grownCap w (i+k) cap e-(i+k)),grownCap w (i+k) cap e)) _ ⟨⟨by rw[List.length_append,hol,repL_length,hzs,Nat.add_mul],?_⟩,rfl⟩ ?_
  ·simp only[List.length_append,repL_length,hol,hzs]
   rw[← Nat.add_mul,← Nat.add_mul]
   congr 1
   omega
  ·exact hw.drew.alloc _
end
class Und (P:Program)(t:TypeId)(d:outParam TypeDesc):Prop where
 u:P.underlying t=some d
class Siz (P:Program)(t:TypeId)(k:outParam Nat):Prop where
 s:∀w,(sizeOf t).run P w= .ok k w
class AgF (P:Program)(t:TypeId):Prop where
 a:∀w,(isAgg t).run P w= .ok false w
class AgT (P:Program)(t:TypeId):Prop where
 a:∀w,(isAgg t).run P w= .ok true w
class Zer (P:Program)(t:TypeId)(v:outParam Value):Prop where
 z:∀w,(zeroValue t).run P w= .ok v w
class Plc (P:Program)(t:TypeId)(fs:outParam (Array Field))(pl:outParam (List (Nat×Nat))):Prop where
 p:∀w,(fs.mapM fun f=>do pure (f.offset,← sizeOf f.type):Sem (Array (Nat×Nat))).run P w= .ok pl.toArray w
 u:P.underlying t=some (.struct fs)
class Mix (P:Program):Prop where
 m:P.follows .mixedOrders=true
class Cal (P:Program)(f:FuncId):Prop where
 c:∀(args:Array Value) (w:World),(callFunc f args).run P w= .ok (.enter f args) w
abbrev dOf {o:Option TypeDesc}{d:TypeDesc}(_:o=some d):TypeDesc:=d
abbrev fOf {o:Option TypeDesc}{d:Array Field}(_:o=some (.struct d)):Array Field:=d
abbrev kOf {P:Program}{t:TypeId}{k:Nat}(_:∀w,(sizeOf t).run P w= .ok k w):Nat:=k
abbrev zOf {P:Program}{t:TypeId}{v:Value}(_:∀w,(zeroValue t).run P w= .ok v w):Value:=v
abbrev lOf {P:Program}{s:Sem (Array (Nat×Nat))}{l:List (Nat×Nat)}(_:∀w,s.run P w= .ok l.toArray w):List (Nat×Nat):=l
section
variable {P:Program}{n:Nat}{B:Base}{Q:Exit→Act→World→Prop}{ks:Ks}{sg:Sg}{ops:Array Oper}{rest:List Oper}
variable {d:Nat}{op:Op}{ty:TypeId}{pos:String}{aft:Array Edge}{g:Option (Nat×Bool)}
theorem Lv {v:Value}(hv:Val P n B ⟨some d,op,ty,pos,aft,g⟩ ks sg v)(h:LW P n B ops Q rest ((d,v)::ks) sg)(hg:gd ops ks g=some true:=by rfl)(hd:Nat.blt d n=true:=by rfl):LW P n B ops Q (⟨some d,op,ty,pos,aft,g⟩::rest) ks sg:=LW.v hg hd hv h
theorem Lp (h:LW P n B ops Q rest ((d,undef)::ks) sg)(hg:gd ops ks g=some false:=by rfl)(hd:Nat.blt d n=true:=by rfl):LW P n B ops Q (⟨some d,op,ty,pos,aft,g⟩::rest) ks sg:=LW.p hg hd h
theorem Le {α:Type}{φ:α→Prop}{v:α→Value}{sg':α→Sg}(he:Eff P n B ⟨some d,op,ty,pos,aft,g⟩ ks sg φ v sg')
 (h:∀x,φ x→LW P n B ops Q rest ((d,v x)::ks) (sg' x))(hg:gd ops ks g=some true:=by rfl)(hd:Nat.blt d n=true:=by rfl):LW P n B ops Q (⟨some d,op,ty,pos,aft,g⟩::rest) ks sg:=LW.e hg hd he h
theorem LeN {α:Type}{φ:α→Prop}{v:α→Value}{sg':α→Sg}(he:Eff P n B ⟨none,op,ty,pos,aft,g⟩ ks sg φ v sg')
 (h:∀x,φ x→LW P n B ops Q rest ks (sg' x))(hg:gd ops ks g=some true:=by rfl):LW P n B ops Q (⟨none,op,ty,pos,aft,g⟩::rest) ks sg:=LW.eN hg he h
theorem Qv {v:Value}(hv:Val P n B ⟨some d,op,ty,pos,aft,g⟩ ks sg v)(h:QW P n B ops Q sg rest ((d,v)::ks))(hg:gd ops ks g=some true:=by rfl)(hd:Nat.blt d n=true:=by rfl):QW P n B ops Q sg (⟨some d,op,ty,pos,aft,g⟩::rest) ks:=QW.v hg hd hv h
theorem Qp (h:QW P n B ops Q sg rest ((d,undef)::ks))(hg:gd ops ks g=some false:=by rfl)(hd:Nat.blt d n=true:=by rfl):QW P n B ops Q sg (⟨some d,op,ty,pos,aft,g⟩::rest) ks:=QW.p hg hd h
theorem Qc {v:Value}(hv:Qcall P n B ⟨some d,op,ty,pos,aft,g⟩ ks sg v)(h:QW P n B ops Q sg rest ((d,v)::ks))(hg:gd ops ks g=some true:=by rfl)(hd:Nat.blt d n=true:=by rfl):QW P n B ops Q sg (⟨some d,op,ty,pos,aft,g⟩::rest) ks:=QW.c hg hd hv h
theorem Rv {S:Sg}{fuel:Nat}{listed:Array Bool}{v:Value}(i:Nat)(hi:ops[i]? =some ⟨some d,op,ty,pos,aft,g⟩)(hv:Val P n B ⟨some d,op,ty,pos,aft,g⟩ ks S v)
 (h:RW P n B ops Q S fuel (listed.setIfInBounds i true) ((d,v)::ks) sg)(hs:Region.noSelect ops=true:=by kernel_rfl)(hf:Region.free .any ops listed i=true:=by kernel_rfl)(hr:(Region.ready .any ops listed).contains i=true:=by kernel_rfl)
 (hQ:∀c a w,Q (.panic c) (a.put (some d) v) w→Q (.panic c) a w:=by exact fun _ _ _ h=>h)(hg:gd ops ks g=some true:=by rfl)(hd:Nat.blt d n=true:=by rfl):RW P n B ops Q S (fuel+1) listed ks sg:=RW.v i hi hs hf hr hQ hg hd hv h
theorem Re {S:Sg}{fuel:Nat}{listed:Array Bool}{α:Type}{φ:α→Prop}{v:α→Value}{sg':α→Sg}(i:Nat)(hi:ops[i]? =some ⟨some d,op,ty,pos,aft,g⟩)(he:Eff P n B ⟨some d,op,ty,pos,aft,g⟩ ks sg φ v sg')
 (h:∀x,φ x→RW P n B ops Q S fuel (listed.setIfInBounds i true) ((d,v x)::ks) (sg' x))(hr:Region.ready .any ops listed=[i]:=by kernel_rfl)(hg:gd ops ks g=some true:=by rfl)(hd:Nat.blt d n=true:=by rfl)
 (hS:∀x,∃r,Pick S (sg' x) r:=by exact fun x=>⟨_,by repeat(first|exact .nil|apply Pick.cons|exact .here|apply Ext.there)⟩):RW P n B ops Q S (fuel+1) listed ks sg:=RW.e i hi hr hg hd he hS h
theorem ReN {S:Sg}{fuel:Nat}{listed:Array Bool}{α:Type}{φ:α→Prop}{v:α→Value}{sg':α→Sg}(i:Nat)(hi:ops[i]? =some ⟨none,op,ty,pos,aft,g⟩)(he:Eff P n B ⟨none,op,ty,pos,aft,g⟩ ks sg φ v sg')
 (h:∀x,φ x→RW P n B ops Q S fuel (listed.setIfInBounds i true) ks (sg' x))(hr:Region.ready .any ops listed=[i]:=by kernel_rfl)(hg:gd ops ks g=some true:=by rfl)
 (hS:∀x,∃r,Pick S (sg' x) r:=by exact fun x=>⟨_,by repeat(first|exact .nil|apply Pick.cons|exact .here|apply Ext.there)⟩):RW P n B ops Q S (fuel+1) listed ks sg:=RW.eN i hi hr hg he hS h
theorem Ro {S:Sg}{fuel:Nat}{listed:Array Bool}{α:Type}{φ:α→Prop}{v:α→Value}{sg':α→Sg}{i:Nat}(hi:ops[i]? =some ⟨some d,op,ty,pos,aft,g⟩)(he:Eff P n B ⟨some d,op,ty,pos,aft,g⟩ ks sg φ v sg')
 (h:∀x,φ x→RW P n B ops Q S fuel (listed.setIfInBounds i true) ((d,v x)::ks) (sg' x))(hg:gd ops ks g=some true:=by rfl)(hd:Nat.blt d n=true:=by rfl)
 (hS:∀x,∃r,Pick S (sg' x) r:=by exact fun x=>⟨_,by repeat(first|exact .nil|apply Pick.cons|exact .here|apply Ext.there)⟩):RO P n B ops Q S fuel listed ks sg i:=RO.e hi hg hd he hS h
theorem Rd {S:Sg}{fuel:Nat}{listed:Array Bool}(h:PQ n B Q .normal ks sg)(hr:Region.ready .any ops listed=[]:=by kernel_rfl):RW P n B ops Q S fuel listed ks sg:=RW.done hr h
theorem Dr {id:Nat}{l:List Oper}{r:Sg}(S:Sg)(h:RW P n B l.toArray Q S l.length (Array.replicate l.length false) ks sg)(hm:P.follows .mixedOrders=true:=by exact Mix.m)(hp:Pick S sg r:=by repeat(first|exact .nil|apply Pick.cons|exact .here|apply Ext.there)):CW P n B Q (.region id l.toArray true) ks sg:=CW.drawn S hm hp h
theorem Qt {id:Nat}{l:List Oper}(h:QW P n B l.toArray Q sg l ks)(hm:P.follows .mixedOrders=true:=by exact Mix.m)(hB:Region.lexB .any l.toArray=true:=by kernel_rfl):CW P n B Q (.region id l.toArray true) ks sg:=CW.quiet hm hB h
theorem Sq {x y:Code}(h:CW P n B (Exit.then (y.wp P Q) Q) x ks sg):CW P n B Q (.seq x y) ks sg:=CW.seq h
theorem Rg {id:Nat}{l:List Oper}(h:LW P n B l.toArray Q l ks sg):CW P n B Q (.region id l.toArray false) ks sg:=CW.region h
theorem Nl (h:PQ n B Q .normal ks sg):LW P n B ops Q [] ks sg:=LW.nil h
theorem Ql (h:PQ n B Q .normal ks sg):QW P n B ops Q sg [] ks:=QW.nil h
theorem Ps {y:Code}(h:CW P n B Q y ks sg):PQ n B (Exit.then (y.wp P Q) Q) .normal ks sg:=PQ.seq h
theorem Bk {id:Nat}{c:Code}(h:CW P n B (Exit.inBlock id Q) c ks sg):CW P n B Q (.block id c) ks sg:=CW.block h
theorem Te {K:Act→World→Prop}{id:Nat}(h:PQ n B Q (.exit id) ks sg):PQ n B (Exit.then K Q) (.exit id) ks sg:=PQ.then_exit h
theorem Tr {K:Act→World→Prop}(h:PQ n B Q .ret ks sg):PQ n B (Exit.then K Q) .ret ks sg:=PQ.then_ret h
theorem Bn {id:Nat}(h:PQ n B Q .normal ks sg):PQ n B (Exit.inBlock id Q) .normal ks sg:=PQ.in_normal h
theorem Br {id:Nat}(h:PQ n B Q .ret ks sg):PQ n B (Exit.inBlock id Q) .ret ks sg:=PQ.in_ret h
theorem Bh {id:Nat}(h:PQ n B Q .normal ks sg):PQ n B (Exit.inBlock id Q) (.exit id) ks sg:=PQ.in_here h
theorem Rt (h:PQ n B Q .ret ks sg):CW P n B Q .ret ks sg:=CW.ret h
theorem Xt {id:Nat}(h:PQ n B Q (.exit id) ks sg):CW P n B Q (.exit id) ks sg:=CW.exit h
theorem Sk (h:PQ n B Q .normal ks sg):CW P n B Q .skip ks sg:=CW.skip h
theorem loopA {γ:Type}{c:Code}{r:Sg}(K:γ→Ks)(G:γ→Sg)(J:γ→Prop)(μ:γ→Nat)(x0:γ)(hj:J x0)
 (round:∀x,J x→CW P n B (Exit.then (fun a w=>∃x',J x'∧μ x'<μ x∧Fr n (K x') a∧Hp B (G x') w) Q) c (K x) (G x))(hk:subK (K x0) ks:=by repeat(first|exact trivial|refine⟨rfl,?_⟩))(hg:Pick (G x0) sg r:=by repeat(first|exact .nil|apply Pick.cons|exact .here|apply Ext.there)):CW P n B Q (.loop c) ks sg:=CW.loop K G J μ x0 hj hk hg round
theorem roundA {γ:Type}{K:γ→Ks}{G:γ→Sg}{J:γ→Prop}{μ:γ→Nat}{m:Nat}{r:Sg}(x':γ)(hj:J x')(hm:μ x'<m)(hk:subK (K x') ks:=by repeat(first|exact trivial|refine⟨rfl,?_⟩))(hg:Pick (G x') sg r:=by repeat(first|exact .nil|apply Pick.cons|exact .here|apply Ext.there)):
 PQ n B (Exit.then (fun a w=>∃x',J x'∧μ x'<m∧Fr n (K x') a∧Hp B (G x') w) Q) .normal ks sg:=PQ.round x' hj hm hk hg
theorem joinA {α:Type}{φ:α→Prop}{T:α→Ks}{G:α→Sg}{r:Sg}(x:α)(hx:φ x)(hs:subK (T x) ks:=by repeat(first|exact trivial|refine⟨rfl,?_⟩))(hp:Pick (G x) sg r:=by repeat(first|exact .nil|apply Pick.cons|exact .here|apply Ext.there)):PQ n B (Jn n B φ T G) .normal ks sg:=PQ.joined x hx hs hp
theorem joinC {α:Type}{φ:α→Prop}{T:α→Ks}{G:α→Sg}{r:Sg}(x:α)(hx:φ x)(hs:subK (T x) ks:=by repeat(first|exact trivial|refine⟨rfl,?_⟩))(hp:Pick (G x) sg r:=by repeat(first|exact .nil|apply Pick.cons|exact .here|apply Ext.there)):PQ n B (Exit.then (fun a w=>∃x,φ x∧Fr n (T x) a∧Hp B (G x) w) Q) .normal ks sg:=PQ.joinedC x hx hs hp
theorem Bo {id id':Nat}(h:PQ n B Q (.exit id') ks sg)(hne:Nat.beq id' id=false:=by rfl):PQ n B (Exit.inBlock id Q) (.exit id') ks sg:=PQ.in_out hne h
theorem Bs {e:Exit}(h:PQ n B Q e ks sg)(he:isGo e=false:=by rfl):PQ n B (Exit.noGoto Q) e ks sg:=PQ.in_scope he h
theorem Ct {c:Operand}{x y:Code}(h1:CW P n B Q x ks sg)(hc:ev ks c=some (.bool true):=by rfl):CW P n B Q (.cond c x y) ks sg:=CW.cond_t hc h1
theorem Cf {c:Operand}{x y:Code}(h1:CW P n B Q y ks sg)(hc:ev ks c=some (.bool false):=by rfl):CW P n B Q (.cond c x y) ks sg:=CW.cond_f hc h1
theorem Rt1 {fn:Func}{R:Ending→World→Prop}{t:Nat}{v:Value}(h:∀w,Hp B sg w→R (.returned v) w)(hr:fn.results=#[.tmp t]:=by rfl)(hv:look ks t=some v:=by rfl):PQ n B (bodyPost P fn R) .ret ks sg:=PQ.ret1 hr hv h
theorem Rt2 {fn:Func}{R:Ending→World→Prop}{t u:Nat}{v x:Value}(h:∀w,Hp B sg w→R (.returned (.tuple #[v,x])) w)(hr:fn.results=#[.tmp t,.tmp u]:=by rfl)(hv:look ks t=some v:=by rfl)(hx:look ks u=some x:=by rfl):PQ n B (bodyPost P fn R) .ret ks sg:=PQ.ret2 hr hv hx h
theorem Rt3 {fn:Func}{R:Ending→World→Prop}{t u s:Nat}{v x y:Value}(h:∀w,Hp B sg w→R (.returned (.tuple #[v,x,y])) w)(hr:fn.results=#[.tmp t,.tmp u,.tmp s]:=by rfl)(hv:look ks t=some v:=by rfl)(hx:look ks u=some x:=by rfl)(hy:look ks s=some y:=by rfl):PQ n B (bodyPost P fn R) .ret ks sg:=PQ.ret3 hr hv hx hy h
end
section
variable {P:Program}{n:Nat}{B:Base}{ks:Ks}{sg:Sg}{d:Option Tmp}{ty:TypeId}{pos:String}{aft:Array Edge}{g:Option (Nat×Bool)}
theorem Mv {x:Operand}{v:Value}(hx:ev ks x=some v:=by rfl):Val P n B ⟨d,.move x,ty,pos,aft,g⟩ ks sg v:=Val.move hx
theorem Av {x:Operand}{v:Value}(hx:ev ks x=some v:=by rfl):Val P n B ⟨d,.assign x,ty,pos,aft,g⟩ ks sg v:=Val.assign hx
theorem Pt {c x y:Operand}{v:Value}(hc:ev ks c=some (.bool true):=by rfl)(hx:ev ks x=some v:=by rfl):Val P n B ⟨d,.pick c x y,ty,pos,aft,g⟩ ks sg v:=Val.pick_t hc hx
theorem Pf {c x y:Operand}{v:Value}(hc:ev ks c=some (.bool false):=by rfl)(hx:ev ks y=some v:=by rfl):Val P n B ⟨d,.pick c x y,ty,pos,aft,g⟩ ks sg v:=Val.pick_f hc hx
theorem Nt {t:TypeId}{x:Operand}{b:Bool}(hx:ev ks x=some (.bool b):=by rfl):Val P n B ⟨d,.unOp .not t x,ty,pos,aft,g⟩ ks sg (.bool (!b)):=Val.not hx
theorem Cm {op:BinOp}{t t':TypeId}{x y:Operand}{k:IntKind}{i j:Int}{r:Bool}(hx:ev ks x=some (.int k i):=by rfl)(hy:ev ks y=some (.int k j):=by rfl)(hc:cmpI op i j=some r:=by rfl):Val P n B ⟨d,.binOp op t x y t',ty,pos,aft,g⟩ ks sg (.bool r):=Val.cmp hx hy hc
theorem Ar {op:BinOp}{t t':TypeId}{x y:Operand}{k:IntKind}{i j r:Int}(hx:ev ks x=some (.int k i):=by rfl)(hy:ev ks y=some (.int k j):=by rfl)(hc:arI op i j=some r:=by rfl)
 (hin:k.wrap r=r:=by first|exact IntWalk.i64_in _ (by omega)|exact IntWalk.u64_in _ (by omega)|exact IntWalk.u8_in _ (by omega)|exact IntWalk.u32_in _ (by omega)):Val P n B ⟨d,.binOp op t x y t',ty,pos,aft,g⟩ ks sg (.int k r):=Val.ar hx hy hc hin
theorem Fa {s:TypeId}{x:Operand}{i:Nat}{fs:Array Field}{f:Field}{b o sz:Nat}(off ft:Nat)(hx:ev ks x=some (.pointer (some ⟨b,o,none⟩)):=by rfl)(hu:P.underlying s=some (.struct fs):=by exact Und.u)(hf:fs[i]? =some f:=by rfl)(hoff:f.offset=off:=by rfl)(hft:f.type=ft:=by rfl)
 (hs:∀w,(sizeOf ft).run P w= .ok sz w:=by exact Siz.s)(hpos:(sz==0)=false:=by rfl):Val P n B ⟨d,.fieldAddr s x i,ty,pos,aft,g⟩ ks sg (.pointer (some ⟨b,o+off,none⟩)):=by
 cases sz with
 |zero=>cases hpos
 |succ k=>exact Val.fieldAddr off hx hu hf hoff (by rw[hft];exact hs)
inductive IdxR:Int→Nat→Prop
 |nat (i:Nat):IdxR (i:Nat) i
 |int (i:Int) (h:0≤i):IdxR i i.toNat
theorem IdxR.eq {i:Int}{j:Nat}(h:IdxR i j):i=(j:Nat):=by cases h with
 |nat=>rfl
 |int h=>omega
theorem Ix {t e:TypeId}{x y:Operand}{k:IntKind}{i:Int}{j b o m c sz:Nat}(hx:ev ks x=some (.slice (some ⟨b,o,none⟩) m c):=by rfl)(hy:ev ks y=some (.int k i):=by rfl)(hj:IdxR i j:=by first|exact IdxR.nat _|exact IdxR.int _ (by omega))(hu:P.underlying t=some (.slice e):=by exact Und.u)
 (hs:∀w,(sizeOf e).run P w= .ok sz w:=by exact Siz.s)(h1:j<m:=by omega):Val P n B ⟨d,.indexAddr t x y,ty,pos,aft,g⟩ ks sg (.pointer (some ⟨b,o+j*sz,none⟩)):=by
 have e:=hj.eq;subst e;exact Val.indexAddrN hx hy hu hs h1
theorem Ln {x:Operand}{t:TypeId}{e:TypeId}{p:Option Addr}{m c:Nat}(hx:ev ks x=some (.slice p m c):=by rfl)(hu:P.underlying t=some (.slice e):=by exact Und.u):Val P n B ⟨d,.call {callee:= .builtin .len,args:=#[x],argTypes:=#[t]},ty,pos,aft,g⟩ ks sg (.int .i64 (m:Nat)):=Val.lenSl hx hu
theorem LnS {x:Operand}{t:TypeId}{l:List UInt8}(hx:ev ks x=some (str l):=by rfl)(hu:P.underlying t=some .string:=by exact Und.u):Val P n B ⟨d,.call {callee:= .builtin .len,args:=#[x],argTypes:=#[t]},ty,pos,aft,g⟩ ks sg (.int .i64 (l.length:Nat)):=Val.lenStr hx hu
theorem Ex {x:Operand}{i:Nat}{vs:List Value}{v:Value}(hx:ev ks x=some (.tuple vs.toArray):=by rfl)(hi:vs[i]? =some v:=by rfl):Val P n B ⟨d,.extract x i,ty,pos,aft,g⟩ ks sg v:=Val.extract hx hi
theorem Nz {x:Operand}{p:Addr}(hx:ev ks x=some (.pointer (some p)):=by rfl):Val P n B ⟨d,.nilCheck x,ty,pos,aft,g⟩ ks sg (.pointer (some p)):=Val.nilCheck hx
theorem Ld {t T:TypeId}{x:Operand}{b o:Nat}{fr:Nat×Nat}{l:List Value}{v:Value}(hx:ev ks x=some (.pointer (some ⟨b,o,none⟩)):=by rfl)(hg:∀w,(isAgg t).run P w= .ok false w:=by exact AgF.a)
 (hm:InS (b,.cells l.toArray T fr) sg:=by repeat(first|exact .here|exact .inner .here|exact .inner (.inner .here)|exact .inner (.inner (.inner .here))|refine .there ?_))(hl:l[o]? =some v:=by rfl):Val P n B ⟨d,.load t x,ty,pos,aft,g⟩ ks sg v:=Val.load hx hg hm hl
theorem Lw {t T:TypeId}{x:Operand}{b:Nat}{fr:Nat×Nat}{l:List Value}(hx:ev ks x=some (.pointer (some ⟨b,0,none⟩)):=by rfl)(hg:∀w,(isAgg t).run P w= .ok true w:=by exact AgT.a)
 (hm:InS (b,.cells l.toArray T fr) sg:=by repeat(first|exact .here|exact .inner .here|exact .inner (.inner .here)|exact .inner (.inner (.inner .here))|refine .there ?_))(hs:∀w,(sizeOf t).run P w= .ok l.length w:=by exact Siz.s):Val P n B ⟨d,.load t x,ty,pos,aft,g⟩ ks sg (.agg l.toArray):=Val.loadW hx hg hm hs
theorem La {t T:TypeId}{x:Operand}{b o:Nat}{fr:Nat×Nat}{l:List Value}(cs:List Value){r:List Value}(hx:ev ks x=some (.pointer (some ⟨b,o,none⟩)):=by rfl)(hg:∀w,(isAgg t).run P w= .ok true w:=by exact AgT.a)
 (hm:InS (b,.cells l.toArray T fr) sg:=by repeat(first|exact .here|exact .inner .here|exact .inner (.inner .here)|exact .inner (.inner (.inner .here))|refine .there ?_))(hl:l.drop o=cs++r:=by rfl)(hs:∀w,(sizeOf t).run P w= .ok cs.length w:=by exact Siz.s):Val P n B ⟨d,.load t x,ty,pos,aft,g⟩ ks sg (.agg cs.toArray):=Val.loadA cs hx hg hm hl hs
theorem Bd {t:TypeId}(cs:List Value){ps:List (Nat×Operand)}{vs:List (Nat×Value)}{zs:List Value}{fs:Array Field}{pl:List (Nat×Nat)}[hP:Plc P t fs pl](hz:∀w,(zeroValue t).run P w= .ok (.agg zs.toArray) w:=by exact Zer.z)
 (hv:evp ks ps=some vs:=by rfl)(hf:fillL (fun(i:Nat)=>pl[i]?) zs vs=some cs:=by rfl):Val P n B ⟨d,.build t ps.toArray,ty,pos,aft,g⟩ ks sg (.agg cs.toArray):=Val.build cs hz hP.u hP.p hv hf
theorem Cv {s t:TypeId}{x:Operand}{k k':IntKind}{i:Int}{ds:TypeDesc}(hx:ev ks x=some (.int k i):=by rfl)(hs:P.underlying s=some ds:=by exact Und.u)(hu:P.underlying t=some (.int k'):=by exact Und.u):Val P n B ⟨d,.convert s t x,ty,pos,aft,g⟩ ks sg (.int k' (k'.wrap i)):=Val.convI hx hs hu
theorem ES {t t':TypeId}{x y:Operand}{i j:List UInt8}(hx:ev ks x=some (str i):=by rfl)(hy:ev ks y=some (str j):=by rfl):Val P n B ⟨d,.binOp .eql t x y t',ty,pos,aft,g⟩ ks sg (.bool (decide (i=j))):=Val.eqStr hx hy
theorem NS {t t':TypeId}{x y:Operand}{i j:List UInt8}(hx:ev ks x=some (str i):=by rfl)(hy:ev ks y=some (str j):=by rfl):Val P n B ⟨d,.binOp .neq t x y t',ty,pos,aft,g⟩ ks sg (.bool (!decide (i=j))):=Val.neStr hx hy
theorem EP {t e t':TypeId}{x y:Operand}{p:Addr}(hx:ev ks x=some (.pointer (some p)):=by rfl)(hy:ev ks y=some (.pointer none):=by rfl)(hu:P.underlying t=some (.pointer e):=by exact Und.u):Val P n B ⟨d,.binOp .eql t x y t',ty,pos,aft,g⟩ ks sg (.bool false):=Val.eqP false hx hy hu (.inr ⟨rfl,rfl⟩)
theorem EP0 {t e t':TypeId}{x y:Operand}(hx:ev ks x=some (.pointer none):=by rfl)(hy:ev ks y=some (.pointer none):=by rfl)(hu:P.underlying t=some (.pointer e):=by exact Und.u):Val P n B ⟨d,.binOp .eql t x y t',ty,pos,aft,g⟩ ks sg (.bool true):=Val.eqP true hx hy hu (.inr ⟨rfl,rfl⟩)
theorem NP {t e t':TypeId}{x y:Operand}{p:Addr}(hx:ev ks x=some (.pointer (some p)):=by rfl)(hy:ev ks y=some (.pointer none):=by rfl)(hu:P.underlying t=some (.pointer e):=by exact Und.u):Val P n B ⟨d,.binOp .neq t x y t',ty,pos,aft,g⟩ ks sg (.bool true):=Val.neP false hx hy hu (.inr ⟨rfl,rfl⟩)
theorem Mf {f:Fn}{xs ys:List Operand}{vs us:List Value}(hx:evs ks xs=some vs:=by rfl)(hy:evs ks ys=some us:=by rfl):Val P n B ⟨d,.makeFunc f xs.toArray ys.toArray,ty,pos,aft,g⟩ ks sg (.func f vs.toArray us.toArray):=Val.makeFunc hx hy
theorem AA {t:TypeId}{l:List Value}(hz:∀w,(zeroValue t).run P w= .ok (.agg l.toArray) w:=by exact Zer.z):Eff P n B ⟨d,.alloc t,ty,pos,aft,g⟩ ks sg (α:=Nat) (fun _=>True) (fun b=> .pointer (some ⟨b,0,none⟩)) (fun b=>[(b,.cells l.toArray t (0,0))]::sg):=Eff.allocA hz
theorem XA {t:TypeId}{x:Operand}{l:List Value}(hx:ev ks x=some (.agg l.toArray):=by rfl):Eff P n B ⟨d,.box t x,ty,pos,aft,g⟩ ks sg (α:=Nat) (fun _=>True) (fun b=> .pointer (some ⟨b,0,none⟩)) (fun b=>[(b,.cells l.toArray t (0,0))]::sg):=Eff.boxA hx
theorem XS {t:TypeId}{x:Operand}{v:Value}(hx:ev ks x=some v:=by rfl)(h1:v.oneCell'=true:=by rfl):Eff P n B ⟨d,.box t x,ty,pos,aft,g⟩ ks sg (α:=Nat) (fun _=>True) (fun b=> .pointer (some ⟨b,0,none⟩)) (fun b=>[(b,.cells [v].toArray t (0,0))]::sg):=Eff.boxS hx h1
theorem StS {t T:TypeId}{x y:Operand}{b o:Nat}{v:Value}{l l':List Value}{sg':Sg}(hx:ev ks x=some (.pointer (some ⟨b,o,none⟩)):=by rfl)(hy:ev ks y=some v:=by rfl)(h1:v.oneCell'=true:=by rfl)
 (hu:Upd b (.cells l.toArray T (0,0)) (.cells l'.toArray T (0,0)) sg sg':=by repeat(first|exact .here|exact .inner .here|exact .inner (.inner .here)|exact .inner (.inner (.inner .here))|apply Upd.there))(hl:l.set o v=l':=by rfl)(hlen:Nat.blt o l.length=true:=by rfl)(hs:∀w,(sizeOf t).run P w= .ok 1 w:=by exact Siz.s):
 Eff P n B ⟨d,.store t x y,ty,pos,aft,g⟩ ks sg (α:=Unit) (fun _=>True) (fun _=>undef) (fun _=>sg'):=Eff.store hx hy h1 hu hl hlen hs
theorem StW {t T:TypeId}{x y:Operand}{b:Nat}{l cs:List Value}{sg':Sg}(hx:ev ks x=some (.pointer (some ⟨b,0,none⟩)):=by rfl)(hy:ev ks y=some (.agg cs.toArray):=by rfl)
 (hu:Upd b (.cells l.toArray T (0,0)) (.cells cs.toArray T (0,0)) sg sg':=by repeat(first|exact .here|exact .inner .here|exact .inner (.inner .here)|exact .inner (.inner (.inner .here))|apply Upd.there))(hlen:l.length=cs.length:=by rfl)(hs:∀w,(sizeOf t).run P w= .ok cs.length w:=by exact Siz.s)(h1:cs.all (·.oneCell')=true:=by rfl):
 Eff P n B ⟨d,.store t x y,ty,pos,aft,g⟩ ks sg (α:=Unit) (fun _=>True) (fun _=>undef) (fun _=>sg'):=Eff.storeW hx hy hu hlen hs h1
theorem CV {v:Value}{f:FuncId}{xs:List Operand}{vs:List Value}{ats:Array TypeId}[Cal P f](h:∀w,Hp B sg w→Calls P f vs.toArray w (fun e w'=>e= .returned v∧Below w.heap.size w w'))(hxs:evs ks xs=some vs:=by rfl):
 Eff P n B ⟨d,.call {callee:= .value (.func f),args:=xs.toArray,argTypes:=ats},ty,pos,aft,g⟩ ks sg (α:=Unit) (fun _=>True) (fun _=>v) (fun _=>sg):=Eff.callV hxs Cal.c h
theorem CR {α:Type}{φ:α→Prop}{v:α→Value}{f:FuncId}{xs:List Operand}{vs:List Value}{ats:Array TypeId}[Cal P f]
 (h:∀w,Hp B sg w→Calls P f vs.toArray w (fun e w'=>∃x,φ x∧e= .returned (v x)∧Below w.heap.size w w'))(hxs:evs ks xs=some vs:=by rfl):
 Eff P n B ⟨d,.call {callee:= .value (.func f),args:=xs.toArray,argTypes:=ats},ty,pos,aft,g⟩ ks sg φ v (fun _=>sg):=Eff.callR hxs Cal.c h
theorem CM {α:Type}{φ:α→Prop}{v:α→Value}{so:α→Sg}{f:FuncId}{xs:List Operand}{vs:List Value}{ats:Array TypeId}(ss:Sg){r:Sg}[Cal P f]
 (h:∀w,Hp B sg w→Sat ss w→Calls P f vs.toArray w (fun e w'=>∃x,φ x∧e= .returned (v x)∧Hp ⟨w,ids ss⟩ (so x) w'))(hp:Pick ss sg r:=by repeat(first|exact .nil|apply Pick.cons|exact .here|apply Ext.there))(hxs:evs ks xs=some vs:=by rfl):
 Eff P n B ⟨d,.call {callee:= .value (.func f),args:=xs.toArray,argTypes:=ats},ty,pos,aft,g⟩ ks sg φ v (fun x=>so x++r):=Eff.callM ss hp hxs Cal.c h
theorem QV {v:Value}{f:FuncId}{xs:List Operand}{vs:List Value}{ats:Array TypeId}[Cal P f]
 (h:∀w,Hp B sg w→Calls P f vs.toArray w (fun e w'=>e= .returned v∧Below w.heap.size w w'))(hxs:evs ks xs=some vs:=by rfl):
 Qcall P n B ⟨d,.call {callee:= .value (.func f),args:=xs.toArray,argTypes:=ats},ty,pos,aft,g⟩ ks sg v:=Qcall.of hxs Cal.c h
end
section
variable {P:Program}{n:Nat}{B:Base}{ks:Ks}{sg:Sg}{d:Option Tmp}{ty:TypeId}{pos:String}{aft:Array Edge}{g:Option (Nat×Bool)}
theorem Val.sliceArr {t e sz b off m:Nat}{x:Operand}{lo hi:Option Operand}(L Hh:Nat)(hx:ev ks x=some (.pointer (some ⟨b,off,none⟩)))(hu:P.underlying t=some (.array m e))(hs:∀w,(sizeOf e).run P w= .ok sz w)
 (hlo:optI ks lo L 0)(hhi:optI ks hi Hh m)(h1:L≤Hh)(h2:Hh≤m):
 Val P n B ⟨d,.slice t x lo hi none,ty,pos,aft,g⟩ ks sg (.slice (some ⟨b,if m=L then off else off+L*sz,none⟩) (Hh-L) (m-L)):=fun a w ha hw=>by
 show(do pure (Next.value (← Instr.sliceAt t (a.eval x) (lo.map a.eval) (hi.map a.eval) none)):Sem Next).run P w=_
 rw[ha.ev hx]
 refine run_value ?_
 have hl:(match lo.map a.eval with|some v=>Instr.sliceBound v Hh .sliceB|none=>pure 0:Sem Nat).run P w= .ok L w:=by
  cases lo with
  |none=>obtain rfl:L=0:=hlo;rfl
  |some y=>obtain⟨k,hk⟩:=hlo;simp only[Option.map_some,ha.ev hk];exact run_sliceBound h1 _ w
 have hh:(match hi.map a.eval with|some v=>Instr.sliceBound v m .sliceAlen|none=>pure m:Sem Nat).run P w= .ok Hh w:=by
  cases hi with
  |none=>obtain rfl:Hh=m:=hhi;rfl
  |some y=>obtain⟨k,hk⟩:=hhi;simp only[Option.map_some,ha.ev hk];exact run_sliceBound h2 _ w
 have hb:(Instr.sliceBounds false m m (lo.map a.eval) (hi.map a.eval) none).run P w= .ok (L,Hh,m) w:=by
  cases hlo':lo.map a.eval<;>cases hhi':hi.map a.eval<;>simp only[hlo',hhi'] at hl hh<;>
   simp_all[Instr.sliceBounds,Sem.run_bind,Result.andThen_ok]
 simp only[Instr.sliceAt,Sem.run_bind,run_underlying hu,Result.andThen_ok,Instr.sureAddr,Sem.run_pure,hb,hs]
 split
 ·rfl
 ·rw[Addr.add_mid]
theorem Val.arrPtr {t e b o k m c:Nat}{x:Operand}(hx:ev ks x=some (.slice (some ⟨b,o,none⟩) m c))(hu:P.underlying t=some (.array k e))(h:k≤m):
 Val P n B ⟨d,.sliceToArrayPointer t x,ty,pos,aft,g⟩ ks sg (.pointer (some ⟨b,o,none⟩)):=fun a w ha hw=>by
 show(do pure (Next.value (← Instr.arrayAt t (a.eval x))):Sem Next).run P w=_
 rw[ha.ev hx]
 refine run_value ?_
 simp only[Instr.arrayAt,Sem.run_bind,run_underlying hu,Result.andThen_ok,if_neg (Nat.not_lt.2 h),Sem.run_pure]
theorem Val.neBy {t t' e m:TypeId}{x y:Operand}{a b:List UInt8}(hx:ev ks x=some (.agg (byC a).toArray))(hy:ev ks y=some (.agg (byC b).toArray))(hm:P.eqGuardType P.depth t=false)(hu:P.underlying t=some (.array m e))(he:P.underlying e=some (.int .u8))(hs:∀w,(sizeOf e).run P w= .ok 1 w)(ha:a.length=m)(hb:b.length=m):
 Val P n B ⟨d,.binOp .neq t x y t',ty,pos,aft,g⟩ ks sg (.bool (!decide (a=b))):=Val.bin hx hy fun w=>by
 rw[Sem.run_bind,run_eqGuard_agg w .neq t x y _ _ hm]
 simp only[Result.andThen_ok]
 have h:=run_equalIn_bytes (P:=P) w 9998 t e m hu he hs a b ha hb
 have e1:(a==b)=decide (a=b):=by by_cases h:a=b<;>simp[h]
 rw[e1] at h
 rw[run_neq_struct]
 have h2:(Op.equalIn 10000 t (.agg (byC a).toArray) (.agg (byC b).toArray)).run P w= .ok (decide (a=b)) w:=h
 rw[h2]
 rfl
theorem Eff.copyT {T t t2 e sz gb o dl dc sl sc m:Nat}{a:Addr}{x y:Operand}{cur cs cells':List Value}{sg':Sg}(hx:ev ks x=some (.slice (some ⟨gb,o,none⟩) dl dc))(hy:ev ks y=some (.slice (some a) sl sc))(hu:P.underlying t=some (.slice e))(hs:(P.info? e).map (·.size)=some sz)
 (hU:Upd gb (.cells cur.toArray T (0,0)) (.cells cells'.toArray T (0,0)) sg sg')(hc:cur.take o++cs++cur.drop (o+cs.length)=cells')(hm:Nat.min sl dl=m)(hn:cs.length=m*sz)(hsrc:∀w,Hp B sg w→∀j v,cs[j]? =some v→w.cell? (a.add j)=some v)(hfit:o+cs.length≤cur.length)(h1:cs.all (·.oneCell')=true):
 Eff P n B ⟨d,.call {callee:= .builtin .copy,args:=#[x,y],argTypes:=#[t,t2]},ty,pos,aft,g⟩ ks sg (α:=Unit) (fun _=>True) (fun _=> .int .i64 (m:Nat)) (fun _=>sg'):=fun ac w K Q ha hw hk=>by
 have e1:=ha.ev hx
 have e2:=ha.ev hy
 have hb:=hw.own _ hU.mem
 simp only at hb
 have hrun:=run_copyN (P:=P) w t t2 ty e gb o dl dc a sl sc m sz cur.toArray T cs hu hs hb hm hn (hsrc w hw) (by simpa using hfit) (fun v hv=>List.all_eq_true.1 h1 v hv)
 simp only[hc] at hrun
 unfold Oper.wp
 have hex:(execOp ac.eval ⟨d,.call {callee:= .builtin .copy,args:=#[x,y],argTypes:=#[t,t2]},ty,pos,aft,g⟩).run P w= .ok (.value (.int .i64 (m:Nat))) (w.setRow gb cells'.toArray):=by
  simp only[execOp,resolve,invoke,Go.builtin,Sem.run_bind,Sem.run_pure,Result.andThen_ok,List.map_toArray,List.map_cons,List.map_nil,e1,e2,hrun]
  rfl
 rw[hex]
 refine hk () _ trivial (hw.upd hU rfl rfl rfl (by simp[World.setRow]) ?_ (fun k hk=>?_))
 ·simp[World.setRow,Array.getElem?_modify,hb]
 ·simp[World.setRow,Array.getElem?_modify,Ne.symm hk]
end
end Go.Proofs.YtjidffamcdcecaaGreat.V
namespace Go.Proofs.YtjidffamcdcecaaGreat.V
open Go Go.RowKit
theorem flatMap_len {α:Type}{enc:α→List Value}{k:Nat}(hk:∀x,(enc x).length=k)(l:List α):(l.flatMap enc).length=l.length*k:=by
 induction l with
 |nil=>simp
 |cons x r ih=>simp only[List.flatMap_cons,List.length_append,hk,ih,List.length_cons,Nat.add_mul,Nat.one_mul];omega
section
variable {α:Type}[Inhabited α]
theorem flatMap_get {enc:α→List Value}{k:Nat}(hk:∀x,(enc x).length=k)(l:List α){j:Nat}(hj:j<l.length*k):(l.flatMap enc)[j]? =(enc (l[j/k]!))[j%k]? :=by
 have hk0:0<k:=by rcases Nat.eq_zero_or_pos k with h|h;(subst h;omega);exact h
 have hq:j/k<l.length:=(Nat.div_lt_iff_lt_mul hk0).2 hj
 have hx:l[j/k]? =some l[j/k]! :=by rw[List.getElem?_eq_getElem hq,getElem!_pos l _ hq]
 obtain⟨r,hr⟩:=drop_flatMap hk l (j/k) _ hx
 have hm:j%k<(enc (l[j/k]!)).length:=by rw[hk];exact Nat.mod_lt _ hk0
 have h1:((l.flatMap enc).drop (j/k*k))[j%k]? =(enc (l[j/k]!))[j%k]? :=by rw[hr,List.getElem?_append_left hm]
 rw[List.getElem?_drop] at h1
 rw[← h1]
 congr 1
 have:=Nat.div_add_mod j k
 rw[Nat.mul_comm] at this;omega
end
end Go.Proofs.YtjidffamcdcecaaGreat.V
namespace Go.Proofs.YtjidffamcdcecaaGreat.V
open Go Go.RowKit
set_option linter.unusedVariables false
theorem splice_mid:∀(cs p l r:List Value),l.length=cs.length→V.splice (p++(l++r)) p.length cs=p++(cs++r)
 |[],p,l,r,h=>by
  have:l=[]:=List.length_eq_zero_iff.1 (by simpa using h)
  subst this;simp[V.splice]
 |c::cs,p,l,r,h=>by
  cases l with
  |nil=>simp at h
  |cons x l=>
   simp only[V.splice,List.cons_append,List.set_append_right _ _ (Nat.le_refl _),Nat.sub_self,List.set_cons_zero]
   have:=splice_mid cs (p++[c]) l r (by simpa using h)
   simpa using this
theorem splice_flat {α:Type}{enc:α→List Value}{k:Nat}(hk:∀x,(enc x).length=k)(l:List α)(i:Nat)(x:α)(rest:List Value)(hi:i<l.length):
 splice (l.flatMap enc++rest) (i*k) (enc x)=(l.set i x).flatMap enc++rest:=by
 obtain⟨p,y,q,rfl,hp⟩:∃p y q,l=p++y::q∧p.length=i:=⟨l.take i,l[i],l.drop (i+1),by rw[← List.drop_eq_getElem_cons hi,List.take_append_drop],by simp;omega⟩
 subst hp
 have h1:(p.flatMap enc).length=p.length*k:=flatMap_len hk p
 have h2:=splice_mid (enc x) (p.flatMap enc) (enc y) (q.flatMap enc++rest) (by rw[hk,hk])
 rw[h1] at h2
 simp only[List.flatMap_append,List.flatMap_cons,List.append_assoc,List.set_append_right _ _ (Nat.le_refl _),Nat.sub_self,List.set_cons_zero]
 exact h2
section
variable {P:Program}{n:Nat}{B:Base}{ks:Ks}{sg:Sg}{d:Option Tmp}{ty:TypeId}{pos:String}{aft:Array Edge}{g:Option (Nat×Bool)}
theorem run_callF {f:FuncId}{x:Operand}{caps:List Value}{xs:List Operand}{vs:List Value}{ats:Array TypeId}{a:Act}(w:World)(ha:Fr n ks a)(hx:ev ks x=some (.func (.func f) #[] caps.toArray))(hxs:evs ks xs=some vs)(hc:∀(args:Array Value) (w:World),(callFunc f args).run P w= .ok (.enter f args) w):
 (execOp a.eval ⟨d,.call {callee:= .value x,args:=xs.toArray,argTypes:=ats},ty,pos,aft,g⟩).run P w= .ok (.enter f (vs++caps).toArray) w:=by
 have hm:=ha.evs hxs
 have h0:=ha.ev hx
 simp only[execOp,resolve,h0,Deferred.ofValue,Sem.run_bind,Sem.run_pure,Result.andThen_ok,invoke,List.map_toArray,hm]
 simp[hc]
theorem Eff.callF {α:Type}{φ:α→Prop}{v:α→Value}{sg':α→Sg}{f:FuncId}{x:Operand}{caps:List Value}{xs:List Operand}{vs:List Value}{ats:Array TypeId}(hx:ev ks x=some (.func (.func f) #[] caps.toArray))(hxs:evs ks xs=some vs)(hc:∀(args:Array Value) (w:World),(callFunc f args).run P w= .ok (.enter f args) w)
 (h:∀w,Hp B sg w→Calls P f (vs++caps).toArray w (fun e w'=>∃x,φ x∧e= .returned (v x)∧Hp B (sg' x) w')):
 Eff P n B ⟨d,.call {callee:= .value x,args:=xs.toArray,argTypes:=ats},ty,pos,aft,g⟩ ks sg φ v sg':=fun a w K Q ha hw hk=>by
 unfold Oper.wp
 rw[run_callF w ha hx hxs hc]
 exact(h w hw).mono fun e w' ⟨x,hx,he,hw'⟩=>by subst he;exact hk x w' hx hw'
theorem Eff.callFV {v:Value}{f:FuncId}{x:Operand}{caps:List Value}{xs:List Operand}{vs:List Value}{ats:Array TypeId}(hx:ev ks x=some (.func (.func f) #[] caps.toArray))(hxs:evs ks xs=some vs)(hc:∀(args:Array Value) (w:World),(callFunc f args).run P w= .ok (.enter f args) w)
 (h:∀w,Hp B sg w→Calls P f (vs++caps).toArray w (fun e w'=>e= .returned v∧Below w.heap.size w w')):
 Eff P n B ⟨d,.call {callee:= .value x,args:=xs.toArray,argTypes:=ats},ty,pos,aft,g⟩ ks sg (α:=Unit) (fun _=>True) (fun _=>v) (fun _=>sg):=
 Eff.callF hx hxs hc fun w hw=>(h w hw).mono fun e w' ⟨he,hb⟩=>⟨(),trivial,he,hw.call_ro hb⟩
theorem Eff.callFM {α:Type}{φ:α→Prop}{v:α→Value}{so:α→Sg}{f:FuncId}{x:Operand}{caps:List Value}{xs:List Operand}{vs:List Value}{ats:Array TypeId}(ss:Sg){r:Sg}(hp:Pick ss sg r)(hx:ev ks x=some (.func (.func f) #[] caps.toArray))(hxs:evs ks xs=some vs)(hc:∀(args:Array Value) (w:World),(callFunc f args).run P w= .ok (.enter f args) w)
 (h:∀w,Hp B sg w→Sat ss w→Calls P f (vs++caps).toArray w (fun e w'=>∃x,φ x∧e= .returned (v x)∧Hp ⟨w,ids ss⟩ (so x) w')):
 Eff P n B ⟨d,.call {callee:= .value x,args:=xs.toArray,argTypes:=ats},ty,pos,aft,g⟩ ks sg φ v (fun x=>so x++r):=
 Eff.callF hx hxs hc fun w hw=>(h w hw (hw.sat.pick hp)).mono fun e w' ⟨x,hx,he,hb⟩=>⟨x,hx,he,hw.call hp hb⟩
theorem Qcall.ofF {v:Value}{f:FuncId}{x:Operand}{caps:List Value}{xs:List Operand}{vs:List Value}{ats:Array TypeId}(hx:ev ks x=some (.func (.func f) #[] caps.toArray))(hxs:evs ks xs=some vs)(hc:∀(args:Array Value) (w:World),(callFunc f args).run P w= .ok (.enter f args) w)
 (h:∀w,Hp B sg w→Calls P f (vs++caps).toArray w (fun e w'=>e= .returned v∧Below w.heap.size w w')):
 Qcall P n B ⟨d,.call {callee:= .value x,args:=xs.toArray,argTypes:=ats},ty,pos,aft,g⟩ ks sg v:=fun a w ha hw=>⟨f,(vs++caps).toArray,run_callF w ha hx hxs hc,h w hw⟩
theorem Val.loadFl {α:Type}{enc:α→List Value}{sz:Nat}{t T:TypeId}{x:Operand}{b i:Nat}{fr:Nat×Nat}{l:List α}{rest:List Value}{y:α}(hx:ev ks x=some (.pointer (some ⟨b,0+i*sz,none⟩)))(hg:∀w,(isAgg t).run P w= .ok true w)(hm:InS (b,.cells (l.flatMap enc++rest).toArray T fr) sg)
 (hk:∀x,(enc x).length=sz)(hy:l[i]? =some y)(hs:∀w,(sizeOf t).run P w= .ok sz w):Val P n B ⟨d,.load t x,ty,pos,aft,g⟩ ks sg (.agg (enc y).toArray):=by
 obtain⟨r,hr⟩:=drop_flatMap hk l i y hy
 refine Val.loadA (enc y) (r:=r++rest) hx hg hm ?_ (by rw[hk];exact hs)
 have hi:i<l.length:=(List.getElem?_eq_some_iff.1 hy).1
 have:i*sz≤(l.flatMap enc).length:=by rw[flatMap_len hk];exact Nat.mul_le_mul_right _ (by omega)
 rw[Nat.zero_add,List.drop_append_of_le_length this,hr,List.append_assoc]
theorem Eff.storeFl {α:Type}{enc:α→List Value}{sz:Nat}{t T:TypeId}{x z:Operand}{b i:Nat}{l:List α}{rest:List Value}{y:α}{sg':Sg}(hx:ev ks x=some (.pointer (some ⟨b,0+i*sz,none⟩)))(hz:ev ks z=some (.agg (enc y).toArray))
 (hu:Upd b (.cells (l.flatMap enc++rest).toArray T (0,0)) (.cells ((l.set i y).flatMap enc++rest).toArray T (0,0)) sg sg')(hk:∀x,(enc x).length=sz)(hi:i<l.length)(hs:∀w,(sizeOf t).run P w= .ok sz w)(h1:∀x,(enc x).all (·.oneCell')=true):
 Eff P n B ⟨d,.store t x z,ty,pos,aft,g⟩ ks sg (α:=Unit) (fun _=>True) (fun _=>undef) (fun _=>sg'):=by
 have hle:i*sz+sz≤l.length*sz:=by
  have:=Nat.mul_le_mul_right sz (show i+1≤l.length by omega)
  rwa [Nat.add_mul,Nat.one_mul] at this
 refine Eff.storeA hx hz hu ?_ ?_ (by rw[hk];exact hs) (h1 y)
 ·rw[Nat.zero_add];exact splice_flat hk l i y rest hi
 ·rw[hk,Nat.zero_add,List.length_append,flatMap_len hk];omega
end
section
variable {P:Program}{n:Nat}{B:Base}{ks:Ks}{sg:Sg}{d:Option Tmp}{ty:TypeId}{pos:String}{aft:Array Edge}{g:Option (Nat×Bool)}
theorem LW.perm {Q:Exit→Act→World→Prop}{ops:Array Oper}{l:List Oper}{sg':Sg}(h:LW P n B ops Q l ks sg')(hp:sg.flatten.Perm sg'.flatten):LW P n B ops Q l ks sg:=fun a w ha hw=>h a w ha (hw.perm hp)
end
def fldAt:List Field→Nat→Option Field
 |[],_=>none
 |f::_,0=>some f
 |_::r,i+1=>fldAt r i
theorem fldAt_eq:∀(l:List Field) (i:Nat),fldAt l i=l[i]?
 |[],_=>by simp[fldAt]
 |_::_,0=>by simp[fldAt]
 |_::r,i+1=>by simp[fldAt,fldAt_eq r i]
theorem Fb {P:Program}{n:Nat}{B:Base}{ks:Ks}{sg:Sg}{d:Option Tmp}{ty:TypeId}{pos:String}{aft:Array Edge}{g:Option (Nat×Bool)}{s:TypeId}{x:Operand}{i:Nat}{fl:List Field}{nm tg pk:String}{ft off bo:Nat}{em:Bool}{b o sz:Nat}(hx:ev ks x=some (.pointer (some ⟨b,o,none⟩)):=by rfl)(hu:P.underlying s=some (.struct fl.toArray):=by exact Und.u)
 (hf:fldAt fl i=some ⟨nm,ft,off,em,tg,pk,bo⟩:=by rfl)(hs:∀w,(sizeOf ft).run P w= .ok sz w:=by exact Siz.s)(hpos:(sz==0)=false:=by rfl):Val P n B ⟨d,.fieldAddr s x i,ty,pos,aft,g⟩ ks sg (.pointer (some ⟨b,o+off,none⟩)):=
 Fa off ft hx hu (by rw[List.getElem?_toArray,← fldAt_eq];exact hf) rfl rfl hs hpos
def Stp8:Nat→Prop→Prop→Prop
 |0,q,p=>q→p
 |n+1,q,p=>∃p',(p'→p)∧Stp8 n q p'
theorem Stp8.go:∀{n:Nat} {q p:Prop},Stp8 n q p→q→p
 |0,_,_,h,hq=>h hq
 |_+1,_,_,⟨_,h,hs⟩,hq=>h (hs.go hq)
theorem pA_ (n:Nat){p q:Prop}(h:q)(hs:Stp8 n q p:=by
 repeat(first
  |exact fun h=>h
  |refine⟨_,fun h=>Lv Mv h,?_⟩
  |refine⟨_,fun h=>Lv Av h,?_⟩
  |refine⟨_,fun h=>Lv Nz h,?_⟩
  |refine⟨_,fun h=>Lv Fb h,?_⟩
  |refine⟨_,fun h=>Lv Ld h,?_⟩
  |refine⟨_,fun h=>Nl h,?_⟩
  |refine⟨_,fun h=>Ps h,?_⟩
  |refine⟨_,fun h=>Sq h,?_⟩
  |refine⟨_,fun h=>Rg h,?_⟩
  |refine⟨_,fun h=>Lv Cm h,?_⟩
  |refine⟨_,fun h=>Lv Ar h,?_⟩
  |refine⟨_,fun h=>Lv Pf h,?_⟩
  |refine⟨_,fun h=>Lv Ex h,?_⟩
  |refine⟨_,fun h=>Lv Pt h,?_⟩
  |refine⟨_,fun h=>Lv Ln h,?_⟩
  |refine⟨_,fun h=>Lv EP h,?_⟩
  |refine⟨_,fun h=>Lv Nt h,?_⟩
  |refine⟨_,fun h=>Lv LnS h,?_⟩
  |refine⟨_,fun h=>Lv Cv h,?_⟩
  |refine⟨_,fun h=>Lv ES h,?_⟩
  |refine⟨_,fun h=>Lv Ix h,?_⟩
  |refine⟨_,fun h=>Lv NS h,?_⟩
  |refine⟨_,fun h=>Lv EP0 h,?_⟩
  |refine⟨_,fun h=>Lv NP h,?_⟩
  |refine⟨_,fun h=>Lv NP0 h,?_⟩
  |refine⟨_,fun h=>Lp h,?_⟩
  |refine⟨_,fun h=>LpN h,?_⟩
  |refine⟨_,fun h=>Sk h,?_⟩
  |refine⟨_,fun h=>Rt h,?_⟩
  |refine⟨_,fun h=>Tr h,?_⟩
  |refine⟨_,fun h=>Cf h,?_⟩
  |refine⟨_,fun h=>Ct h,?_⟩
  |refine⟨_,fun h=>Bk h,?_⟩
  |refine⟨_,fun h=>Te h,?_⟩
  |refine⟨_,fun h=>Bh h,?_⟩
  |refine⟨_,fun h=>Bn h,?_⟩
  |refine⟨_,fun h=>Br h,?_⟩
  |refine⟨_,fun h=>Xt h,?_⟩
  |refine⟨_,fun h=>Bo h,?_⟩
  |refine⟨_,fun h=>Rt1 h,?_⟩
  |refine⟨_,fun h=>Rt2 h,?_⟩
  |refine⟨_,fun h=>Ql h,?_⟩
  |refine⟨_,fun h=>Qp h,?_⟩
  |refine⟨_,fun h=>QpN h,?_⟩
  |refine⟨_,fun h=>Bs h,?_⟩
  |refine⟨_,fun h=>Rd h,?_⟩
  |refine⟨_,fun h=>Qv Mv h,?_⟩
  |refine⟨_,fun h=>Qv Av h,?_⟩
  |refine⟨_,fun h=>Qv Nz h,?_⟩
  |refine⟨_,fun h=>Qv Fb h,?_⟩
  |refine⟨_,fun h=>Qv Cm h,?_⟩
  |refine⟨_,fun h=>Qv Ar h,?_⟩
  |refine⟨_,fun h=>Qv Pf h,?_⟩
  |refine⟨_,fun h=>Qv Pt h,?_⟩
  |refine⟨_,fun h=>Qv Ex h,?_⟩
  |refine⟨_,fun h=>Qv Ln h,?_⟩
  |refine⟨_,fun h=>Qv Ix h,?_⟩
  |refine⟨_,fun h=>Qv Nt h,?_⟩)):p:=hs.go h
structure Nm8 (i:Nat)(p' p:Prop):Prop where
 h:p'→p
section
variable {P:Program}{n:Nat}{B:Base}{Q:Exit→Act→World→Prop}{ks:Ks}{sg:Sg}{ops:Array Oper}
variable {d:Nat}{op:Op}{ty:TypeId}{pos:String}{aft:Array Edge}{g:Option (Nat×Bool)}
theorem RvN {S:Sg}{fuel:Nat}{listed:Array Bool}{v:Value}{i:Nat}(hi:ops[i]? =some ⟨some d,op,ty,pos,aft,g⟩)(hv:Val P n B ⟨some d,op,ty,pos,aft,g⟩ ks S v)
 (hs:Region.noSelect ops=true:=by kernel_rfl)(hf:Region.free .any ops listed i=true:=by kernel_rfl)(hr:(Region.ready .any ops listed).contains i=true:=by kernel_rfl)
 (hQ:∀c a w,Q (.panic c) (a.put (some d) v) w→Q (.panic c) a w:=by exact fun _ _ _ h=>h)(hg:gd ops ks g=some true:=by rfl)(hd:Nat.blt d n=true:=by rfl):Nm8 i (RW P n B ops Q S fuel (listed.setIfInBounds i true) ((d,v)::ks) sg) (RW P n B ops Q S (fuel+1) listed ks sg):=⟨RW.v i hi hs hf hr hQ hg hd hv⟩
theorem RpN {S:Sg}{fuel:Nat}{listed:Array Bool}{i:Nat}(hi:ops[i]? =some ⟨some d,op,ty,pos,aft,g⟩)
 (hs:Region.noSelect ops=true:=by kernel_rfl)(hf:Region.free .any ops listed i=true:=by kernel_rfl)(hr:(Region.ready .any ops listed).contains i=true:=by kernel_rfl)
 (hQ:∀c a w,Q (.panic c) (a.put (some d) undef) w→Q (.panic c) a w:=by exact fun _ _ _ h=>h)(hg:gd ops ks g=some false:=by rfl)(hd:Nat.blt d n=true:=by rfl):Nm8 i (RW P n B ops Q S fuel (listed.setIfInBounds i true) ((d,undef)::ks) sg) (RW P n B ops Q S (fuel+1) listed ks sg):=⟨RW.p i hi hs hf hr hQ hg hd⟩
end
def Stq8:List Nat→Prop→Prop→Prop
 |[],q,p=>q→p
 |i::l,q,p=>∃p',Nm8 i p' p∧Stq8 l q p'
theorem Stq8.go:∀{l:List Nat} {q p:Prop},Stq8 l q p→q→p
 |[],_,_,h,hq=>h hq
 |_::_,_,_,⟨_,h,hs⟩,hq=>h.h (hs.go hq)
theorem pR_ (l:List Nat){p q:Prop}(h:q)(hs:Stq8 l q p:=by
 repeat(first
  |exact fun h=>h
  |refine⟨_,RvN rfl Mv,?_⟩
  |refine⟨_,RvN rfl Nz,?_⟩
  |refine⟨_,RvN rfl Fb,?_⟩
  |refine⟨_,RvN rfl Av,?_⟩
  |refine⟨_,RvN rfl Ex,?_⟩
  |refine⟨_,RvN rfl Cm,?_⟩
  |refine⟨_,RvN rfl Ar,?_⟩
  |refine⟨_,RvN rfl Ix,?_⟩
  |refine⟨_,RvN rfl Ln,?_⟩
  |refine⟨_,RvN rfl Pt,?_⟩
  |refine⟨_,RvN rfl Pf,?_⟩
  |refine⟨_,RvN rfl Nt,?_⟩
  |refine⟨_,RpN rfl,?_⟩)):p:=hs.go h
theorem pk_ {ss sg r:Sg}(h:Pick ss sg r:=by repeat(first|exact .nil|apply Pick.cons|exact .here|apply Ext.there)):Pick ss sg r:=h
theorem om_ {p:Prop}(h:p:=by omega):p:=h
theorem in_ {p:Nat×Obj}{sg:Sg}(h:InS p sg:=by repeat(first|exact .here|exact .inner .here|exact .inner (.inner .here)|exact .inner (.inner (.inner .here))|refine .there ?_)):InS p sg:=h
theorem up_ {b:Nat}{o o':Obj}{sg sg':Sg}(h:Upd b o o' sg sg':=by repeat(first|exact .here|exact .inner .here|exact .inner (.inner .here)|exact .inner (.inner (.inner .here))|apply Upd.there)):Upd b o o' sg sg':=h
theorem kr_ {p:Prop}(h:p:=by kernel_rfl):p:=h
def Mo (P:Program)(f:FuncId)(l:List Value)(ss:Sg){α:Type}(φ:α→Prop)(v:α→Value)(so:α→Sg):Prop:=∀w,Sat ss w→Calls P f l.toArray w fun e w'=>∃x,φ x∧e= .returned (v x)∧Hp ⟨w,ids ss⟩ (so x) w'
def Mz (P:Program)(f:FuncId)(l:List Value){α:Type}(φ:α→Prop)(v:α→Value)(so:α→Sg):Prop:=∀w,Calls P f l.toArray w fun e w'=>∃x,φ x∧e= .returned (v x)∧Hp ⟨w,[]⟩ (so x) w'
def Rx (P:Program)(f:FuncId)(l:List Value)(ss:Sg)(v:Value):Prop:=∀w,Sat ss w→Calls P f l.toArray w fun e w'=>e= .returned v∧Below w.heap.size w w'
def Rz (P:Program)(f:FuncId)(l:List Value)(v:Value):Prop:=∀w,Calls P f l.toArray w fun e w'=>e= .returned v∧Below w.heap.size w w'
section
variable {P:Program}{n:Nat}{B:Base}{Q:Exit→Act→World→Prop}{ks:Ks}{sg:Sg}{d:Option Tmp}{ty:TypeId}{pos:String}{aft:Array Edge}{g:Option (Nat×Bool)}
variable {f:FuncId}{xs:List Operand}{vs:List Value}{ats:Array TypeId}{ss r:Sg}[Cal P f]
theorem Cm_ {α:Type}{φ:α→Prop}{v:α→Value}{so:α→Sg}(h:Mo P f vs ss φ v so)(hp:Pick ss sg r:=by repeat(first|exact .nil|apply Pick.cons|exact .here|apply Ext.there))(hxs:evs ks xs=some vs:=by rfl):
 Eff P n B ⟨d,.call {callee:= .value (.func f),args:=xs.toArray,argTypes:=ats},ty,pos,aft,g⟩ ks sg φ v (fun x=>so x++r):=Eff.callM ss hp hxs Cal.c (fun w _ hs=>h w hs)
theorem Cn_ {α:Type}{φ:α→Prop}{v:α→Value}{so:α→Sg}(h:Mz P f vs φ v so)(hxs:evs ks xs=some vs:=by rfl):
 Eff P n B ⟨d,.call {callee:= .value (.func f),args:=xs.toArray,argTypes:=ats},ty,pos,aft,g⟩ ks sg φ v (fun x=>so x++sg):=Eff.callM [] .nil hxs Cal.c (fun w _ _=>h w)
theorem Cr_ {v:Value}(h:Rx P f vs ss v)(hp:Pick ss sg r:=by repeat(first|exact .nil|apply Pick.cons|exact .here|apply Ext.there))(hxs:evs ks xs=some vs:=by rfl):
 Eff P n B ⟨d,.call {callee:= .value (.func f),args:=xs.toArray,argTypes:=ats},ty,pos,aft,g⟩ ks sg (α:=Unit) (fun _=>True) (fun _=>v) (fun _=>sg):=Eff.callV hxs Cal.c (fun w hw=>h w (hw.sat.pick hp))
theorem Cz_ {v:Value}(h:Rz P f vs v)(hxs:evs ks xs=some vs:=by rfl):
 Eff P n B ⟨d,.call {callee:= .value (.func f),args:=xs.toArray,argTypes:=ats},ty,pos,aft,g⟩ ks sg (α:=Unit) (fun _=>True) (fun _=>v) (fun _=>sg):=Eff.callV hxs Cal.c (fun w _=>h w)
theorem Qr_ {v:Value}(h:Rx P f vs ss v)(hp:Pick ss sg r:=by repeat(first|exact .nil|apply Pick.cons|exact .here|apply Ext.there))(hxs:evs ks xs=some vs:=by rfl):
 Qcall P n B ⟨d,.call {callee:= .value (.func f),args:=xs.toArray,argTypes:=ats},ty,pos,aft,g⟩ ks sg v:=Qcall.of hxs Cal.c (fun w hw=>h w (hw.sat.pick hp))
theorem Qz_ {v:Value}(h:Rz P f vs v)(hxs:evs ks xs=some vs:=by rfl):
 Qcall P n B ⟨d,.call {callee:= .value (.func f),args:=xs.toArray,argTypes:=ats},ty,pos,aft,g⟩ ks sg v:=Qcall.of hxs Cal.c (fun w _=>h w)
end
section
variable {P:Program}{f:FuncId}{fn:Func}{c:Code}{l:List Value}{w:World}{R:Ending→World→Prop}{m:Nat}
theorem Ca_ {sg0:Sg}(hf:P.funcs[f]? =some fn)(hb:fn.body=some c)(hn:fn.ntmps=m)(hs:Sat sg0 w)(h:CW P m ⟨w,ids sg0⟩ (bodyPost P fn R) c (initK 0 l) sg0)(hl:l.length≤m:=by exact Nat.le_of_ble_eq_true rfl):Calls P f l.toArray w R:=calls sg0 hf hb hn hl hs h
theorem Cs_ (sg0:Sg)(hf:P.funcs[f]? =some fn)(hb:fn.body=some c)(hn:fn.ntmps=m)(hs:Sat sg0 w)(h:CW P m ⟨w,ids sg0⟩ (bodyPost P fn R) c (initK 0 l) sg0)(hl:l.length≤m:=by exact Nat.le_of_ble_eq_true rfl):Calls P f l.toArray w R:=calls sg0 hf hb hn hl hs h
theorem Cb_ (hf:P.funcs[f]? =some fn)(hb:fn.body=some c)(hn:fn.ntmps=m)(h:CW P m ⟨w,ids []⟩ (bodyPost P fn R) c (initK 0 l) [])(hl:l.length≤m:=by exact Nat.le_of_ble_eq_true rfl):Calls P f l.toArray w R:=calls [] hf hb hn hl (sat_nil _) h
end
section
variable {B:Base}{sg r:Sg}{u:Value}
theorem fi_ {α:Type}{φ:α→Prop}{v:α→Value}{so:α→Sg}(x:α)(h:φ x)(hv:u=v x:=by rfl)(hp:Pick (so x) sg r:=by repeat(first|exact .nil|apply Pick.cons|exact .here|apply Ext.there)):∀w',Hp B sg w'→∃x,φ x∧Ending.returned u= .returned (v x)∧Hp B (so x) w':=fun w' hw=>⟨x,h,by rw[hv],hw.pick hp⟩
theorem fb_ {w:World}:∀w',Hp ⟨w,[]⟩ sg w'→Ending.returned u= .returned u∧Below w.heap.size w w':=fun w' hw=>⟨rfl,hw.below⟩
theorem fr_ {w:World}{ss:Sg}(hs:Sat ss w)(hp:Pick ss sg r:=by repeat(first|exact .nil|apply Pick.cons|exact .here|apply Ext.there)):∀w',Hp ⟨w,ids ss⟩ sg w'→Ending.returned u= .returned u∧Below w.heap.size w w':=fun w' hw=>⟨rfl,hw.ro hp hs⟩
end
section
variable {P:Program}{n:Nat}{B:Base}{Q:Exit→Act→World→Prop}{ks:Ks}{sg:Sg}{ops:Array Oper}{l:List Oper}
theorem Cd_ {c:Operand}{x y:Code}{t:Bool}{p q:Prop}(hc:ev ks c=some (.bool t))[BT t p][BF t q](h1:p→CW P n B Q x ks sg)(h2:q→CW P n B Q y ks sg):CW P n B Q (.cond c x y) ks sg:=CW.cond hc (fun e=>h1 (bT e)) (fun e=>h2 (bF e))
theorem sx_ {d:Option Tmp}{ty:TypeId}{pos:String}{aft:Array Edge}{g:Option (Nat×Bool)}(l':List Value){t T:TypeId}{x y:Operand}{b o:Nat}{v:Value}{l:List Value}{sg':Sg}(hx:ev ks x=some (.pointer (some ⟨b,o,none⟩)):=by rfl)(hy:ev ks y=some v:=by rfl)(h1:v.oneCell'=true:=by rfl)
 (hu:Upd b (.cells l.toArray T (0,0)) (.cells l'.toArray T (0,0)) sg sg':=by repeat(first|exact .here|exact .inner .here|exact .inner (.inner .here)|exact .inner (.inner (.inner .here))|apply Upd.there))(hl:l.set o v=l':=by rfl)(hlen:o<l.length:=by first|exact Nat.le_of_ble_eq_true rfl|(simp<;>omega))(hs:∀w,(sizeOf t).run P w= .ok 1 w:=by exact Siz.s):
 Eff P n B ⟨d,.store t x y,ty,pos,aft,g⟩ ks sg (α:=Unit) (fun _=>True) (fun _=>undef) (fun _=>sg'):=Eff.storeX hx hy h1 hu hl hlen hs
end
end Go.Proofs.YtjidffamcdcecaaGreat.V
namespace Go.Proofs.YtjidffamcdcecaaGreat
open Go Go.RowKit V
set_option linter.unusedVariables false
set_option maxRecDepth 100000
set_option maxHeartbeats 1000000
section
attribute [local irreducible] V.CW V.LW V.QW V.RW V.PQ V.Val V.Eff V.Qcall
open V (str byC ownV ownG ownS ownOk)
theorem mixed:Tryz.prog.follows .mixedOrders=true:=by kernel_rfl
instance:Mix Tryz.prog:=⟨mixed⟩
theorem all_one {α:Type}{enc:α→List Value}(h:∀x,(enc x).all (·.oneCell')=true)(l:List α):(l.flatMap enc).all (·.oneCell')=true:=by
 induction l with
 |nil=>rfl
 |cons y t ih=>simp only[List.flatMap_cons,List.all_append,ih,Bool.and_true];exact h y
theorem range_flat {α:Type}[Inhabited α]{enc:α→List Value}{sz:Nat}(hk:∀x,(enc x).length=sz){l:List α}{b o:Nat}{w:World}(h:∀i x,l[i]? =some x→w.rangeAt b (o+i*sz) (enc x)):w.rangeAt b o (l.flatMap enc):=fun j v hv=>by
 have hj:j<l.length*sz:=by rw[← V.flatMap_len hk];exact(List.getElem?_eq_some_iff.1 hv).1
 rw[V.flatMap_get hk l hj] at hv
 have hs0:0<sz:=by rcases Nat.eq_zero_or_pos sz with e|e;(subst e;omega);exact e
 have hq:j/sz<l.length:=(Nat.div_lt_iff_lt_mul hs0).2 hj
 have hx:l[j/sz]? =some l[j/sz]! :=by rw[List.getElem?_eq_getElem hq,getElem!_pos l _ hq]
 have h1:=h _ _ hx (j%sz) v hv
 have:=Nat.div_add_mod j sz
 rw[Nat.mul_comm] at this
 rw[show o+j=o+j/sz*sz+j%sz by omega]
 exact h1
theorem sl_range {α:Type}[Inhabited α]{enc:α→List Value}{sz:Nat}(hk:∀x,(enc x).length=sz){l:List α}{p:Option Addr}{w0:World}{F:List Nat}(h:V.slAt w0 p sz enc l)(hn:0<l.length)(hf:∀b o,p=some ⟨b,o,none⟩→b∉F):∃b o,p=some ⟨b,o,none⟩∧∀{sg:Sg} (w:World),Hp ⟨w0,F⟩ sg w→w.rangeAt b o (l.flatMap enc):=by
 rcases h with h|⟨b,o,hp,hb,hr⟩
 ·rw[h] at hn;simp at hn
 ·refine⟨b,o,hp,fun {sg} w hw=>range_flat hk fun i x hx=>?_⟩
  have h8:=hw.slAt (F:=F) (.inr ⟨b,o,hp,hb,hr⟩:V.slAt w0 p sz enc l) hf
  rcases h8 with h8|⟨b2,o2,hp2,_,hr2⟩
  ·rw[h8] at hx;simp at hx
  ·rw[hp] at hp2
   simp only[Option.some.injEq,Addr.mk.injEq] at hp2
   obtain⟨rfl,rfl,_⟩:=hp2
   exact hr2 i x hx
theorem own_slg {α:Type}{enc:α→List Value}{sz e:Nat}(hk:∀x,(enc x).length=sz)(l:List α)(y:V.OwnO)(hy:ownOk sz l.length (l.flatMap enc) y):∃(p:Option Addr) (c:Nat),ownV l.length y= .slice p l.length c∧(0<sz→l.length≤c)∧∀{B:V.Base} {sg r:V.Sg} {w:World},Hp B sg w→Pick [ownG e (l.flatMap enc) y] sg r→V.slAt w p sz enc l:=by
 rcases y with _|⟨gb,rest,cap⟩
 ·have hl0:l.length=0:=hy.2
  exact⟨none,0,by rw[hl0];rfl,fun _=>by omega,fun _ _=> .inl (List.length_eq_zero_iff.1 hl0)⟩
 ·refine⟨some ⟨gb,0,none⟩,cap,rfl,fun hs=>?_,fun hw hp=>V.slAt_flat (hw.pick hp) hk rfl .here⟩
  have h1:=hy.1
  have h2:(l.flatMap enc).length+rest.length=cap*sz:=hy.2
  exact Nat.le_of_mul_le_mul_right (show l.length*sz≤cap*sz by omega) hs
theorem not_in {B:V.Base}{ss sg r:V.Sg}{w:World}{p:Nat×Obj}(hw:Hp B sg w)(hp:Pick ss sg r)(hm:InS p r):p.1∉V.ids ss:=fun h=>by
 have hnd:=(hw.perm (sg':=ss++r) (by rw[List.flatten_append];exact hp.perm')).nd
 rw[List.flatten_append,List.map_append] at hnd
 exact(List.nodup_append.1 hnd).2.2 _ h _ (List.mem_map.2 ⟨p,hm.mem,rfl⟩) rfl
theorem V.Hp.pk {B:V.Base}{ss sg r:V.Sg}{w:World}(h:Hp B sg w)(hp:Pick ss sg r:=by repeat(first|exact .nil|apply Pick.cons|exact .here|apply Ext.there)):Hp B ss w:=h.pick hp
theorem V.Hp.at {B:V.Base}{sg:V.Sg}{w:World}{b:Nat}{o:Obj}(h:Hp B sg w)(hm:InS (b,o) sg:=by repeat(first|exact .here|exact .inner .here|exact .inner (.inner .here)|refine .there ?_)):w.heap[b]? =some o:=h.own _ hm.mem
theorem splice_app:∀(cs p y:List Value) (o:Nat),V.splice (p++y) (p.length+o) cs=p++V.splice y o cs
 |[],p,y,o=>rfl
 |v::r,p,y,o=>by
  show V.splice ((p++y).set (p.length+o) v) (p.length+o+1) r=p++V.splice (y.set o v) (o+1) r
  rw[List.set_append_right _ _ (Nat.le_add_right _ _),Nat.add_sub_cancel_left,Nat.add_assoc,splice_app r p]
theorem splice_left:∀(cs e r:List Value) (o:Nat),o+cs.length≤e.length→V.splice (e++r) o cs=V.splice e o cs++r
 |[],e,r,o,_=>rfl
 |v::cs,e,r,o,h=>by
  rw[List.length_cons] at h
  show V.splice ((e++r).set o v) (o+1) cs=V.splice (e.set o v) (o+1) cs++r
  rw[List.set_append_left _ _ om_,splice_left cs (e.set o v) r (o+1) (by rw[List.length_set];omega)]
theorem splice_cut:∀(cs l:List Value) (o:Nat),o+cs.length≤l.length→V.splice l o cs=l.take o++cs++l.drop (o+cs.length):=fun cs l o h=>by
 have e:l=l.take o++(((l.drop o).take cs.length)++(l.drop o).drop cs.length):=by rw[List.take_append_drop,List.take_append_drop]
 have h1:(l.take o).length=o:=by rw[List.length_take];omega
 have h2:=splice_app cs (l.take o) (((l.drop o).take cs.length)++(l.drop o).drop cs.length) 0
 rw[h1,← e,Nat.add_zero] at h2
 have h3:=V.splice_mid cs [] ((l.drop o).take cs.length) ((l.drop o).drop cs.length) (by rw[List.length_take,List.length_drop];omega)
 simp only[List.nil_append,List.length_nil] at h3
 rw[h2,h3,List.drop_drop,List.append_assoc]
theorem splice_in {α:Type}{enc:α→List Value}{k:Nat}(hk:∀x,(enc x).length=k){l:List α}{i:Nat}{x y:α}(hx:l[i]? =some x)(o:Nat)(cs:List Value)(hc:V.splice (enc x) o cs=enc y)(ho:o+cs.length≤k)(r:List Value:=[]):V.splice (l.flatMap enc++r) (i*k+o) cs=(l.set i y).flatMap enc++r:=by
 have hi:=(List.getElem?_eq_some_iff.1 hx).1
 have e1:l=l.take i++x::l.drop (i+1):=by
  have h:=List.take_append_drop i l
  rw[List.drop_eq_getElem_cons hi,(List.getElem?_eq_some_iff.1 hx).2] at h
  exact h.symm
 have hP:((l.take i).flatMap enc).length=i*k:=by rw[V.flatMap_len hk,List.length_take,Nat.min_eq_left (Nat.le_of_lt hi)]
 have e2:l.flatMap enc++r=(l.take i).flatMap enc++(enc x++((l.drop (i+1)).flatMap enc++r)):=by
  conv=>lhs;rw[e1]
  simp
 have e3:(l.set i y).flatMap enc++r=(l.take i).flatMap enc++(enc y++((l.drop (i+1)).flatMap enc++r)):=by
  rw[List.set_eq_take_append_cons_drop,if_pos hi]
  simp
 rw[e2,e3,← hP,splice_app,splice_left _ _ _ _ (by rw[hk];exact ho),hc]
abbrev B64:={l:List UInt8//l.length=64}
structure Ce where
 now:B64
 kept:B64
 way:B64
 sent:Bool
def z64:B64:=⟨List.replicate 64 0,by simp⟩
def ce0:Ce:=⟨z64,z64,z64,false⟩
def ceC (c:Ce):List Value:=byC c.now.1++(byC c.kept.1++(byC c.way.1++[.bool c.sent]))
theorem byC64 (b:B64):(byC b.1).length=64:=by rw[V.byC_len,b.2]
theorem ceC_len (c:Ce):(ceC c).length=193:=by unfold ceC;simp only[List.length_append,byC64,List.length_cons,List.length_nil]
theorem ce_now (c:Ce)(b:B64):V.splice (ceC c) 0 (byC b.1)=ceC {c with now:=b}:=by
 have h:=V.splice_mid (byC b.1) [] (byC c.now.1) (byC c.kept.1++(byC c.way.1++[.bool c.sent])) (by rw[byC64,byC64])
 simpa[ceC] using h
theorem ce_kept (c:Ce)(b:B64):V.splice (ceC c) 64 (byC b.1)=ceC {c with kept:=b}:=by
 have h:=V.splice_mid (byC b.1) (byC c.now.1) (byC c.kept.1) (byC c.way.1++[.bool c.sent]) (by rw[byC64,byC64])
 rw[byC64] at h
 exact h
theorem ce_way (c:Ce)(b:B64):V.splice (ceC c) 128 (byC b.1)=ceC {c with way:=b}:=by
 have h:=V.splice_mid (byC b.1) (byC c.now.1++byC c.kept.1) (byC c.way.1) [.bool c.sent] (by rw[byC64,byC64])
 rw[List.length_append,byC64,byC64,List.append_assoc] at h
 rw[show ceC c=byC c.now.1++(byC c.kept.1++(byC c.way.1++[.bool c.sent])) from rfl,h]
 simp[ceC]
theorem ce_sent (c:Ce)(b:Bool):V.splice (ceC c) 192 [.bool b]=ceC {c with sent:=b}:=by
 have h:=V.splice_mid [.bool b] (byC c.now.1++(byC c.kept.1++byC c.way.1)) [.bool c.sent] [] rfl
 simp only[List.length_append,byC64,List.append_assoc,List.append_nil] at h
 exact h
theorem ce_at0 (c:Ce):ceC c=byC c.now.1++(byC c.kept.1++(byC c.way.1++[.bool c.sent])):=rfl
theorem ce_at64 (c:Ce):(ceC c).drop 64=byC c.kept.1++(byC c.way.1++[.bool c.sent]):=by rw[ce_at0];exact List.drop_left' (byC64 _)
theorem ce_at128 (c:Ce):(ceC c).drop 128=byC c.way.1++[.bool c.sent]:=by rw[show 128=64+64 from rfl,← List.drop_drop,ce_at64];exact List.drop_left' (byC64 _)
theorem ce_at192 (c:Ce):(ceC c).drop 192=[.bool c.sent]:=by rw[show 192=128+64 from rfl,← List.drop_drop,ce_at128];exact List.drop_left' (byC64 _)
theorem flat_at {α:Type}{enc:α→List Value}{k:Nat}(hk:∀x,(enc x).length=k){l:List α}{i:Nat}{x:α}(hx:l[i]? =some x){o:Nat}(ho:o≤k){cs r:List Value}(h:(enc x).drop o=cs++r):∃r2,(l.flatMap enc).drop (i*k+o)=cs++r2:=by
 obtain⟨r1,h1⟩:=V.drop_flatMap hk l i x hx
 refine⟨r++r1,?_⟩
 rw[← List.drop_drop,h1,List.drop_append_of_le_length (by rw[hk];exact ho),h,List.append_assoc]
structure Cnt where
 a:Int
 b:Int
 c:Int
 d:Int
 e:Int
def ctC (k:Cnt):List Value:=[.int .i64 k.a,.int .i64 k.b,.int .i64 k.c,.int .i64 k.d,.int .i64 k.e]
def dvC (cb:Nat)(D:List Ce)(k:Cnt):List Value:= .slice (some ⟨cb,0,none⟩) D.length D.length::ctC k
abbrev devS (db cb:Nat)(D:List Ce)(k:Cnt):Sg:=[[(db,.cells (dvC cb D k).toArray 121 (0,0))],[(cb,.cells (D.flatMap ceC).toArray 126 (0,0))]]
def byE (u:UInt8):List Value:=[.int .u8 (u.toNat:Nat)]
theorem byE_len (u:UInt8):(byE u).length=1:=rfl
theorem byE_one (u:UInt8):(byE u).all (·.oneCell')=true:=rfl
theorem byC_flat (l:List UInt8):byC l=l.flatMap byE:=by
 induction l with
 |nil=>rfl
 |cons a r ih=>rw[List.flatMap_cons,← ih];rfl
end
section
theorem places121:∀w,((Array.mapM (fun(f:Field)=>do pure (f.offset,← sizeOf f.type)) (Tryz.prog.fieldsOf 121):Sem (Array (Nat×Nat)))).run Tryz.prog w= .ok [(0,1),(1,5)].toArray w:=by
 intro w;kernel_rfl
instance:Siz Tryz.prog 2 (kOf Tryz.sizeOf2):=⟨Tryz.sizeOf2⟩
instance:Und Tryz.prog 3 (dOf Tryz.underlying3):=⟨Tryz.underlying3⟩
instance:Siz Tryz.prog 3 (kOf Tryz.sizeOf3):=⟨Tryz.sizeOf3⟩
instance:AgF Tryz.prog 3:=⟨Tryz.isAgg3⟩
instance:Siz Tryz.prog 4 (kOf Tryz.sizeOf4):=⟨Tryz.sizeOf4⟩
instance:AgF Tryz.prog 4:=⟨Tryz.isAgg4⟩
instance:Und Tryz.prog 5 (dOf Tryz.underlying5):=⟨Tryz.underlying5⟩
instance:Siz Tryz.prog 5 (kOf Tryz.sizeOf5):=⟨Tryz.sizeOf5⟩
instance:Siz Tryz.prog 26 (kOf Tryz.sizeOf26):=⟨Tryz.sizeOf26⟩
instance:AgF Tryz.prog 26:=⟨Tryz.isAgg26⟩
instance:Und Tryz.prog 35 (dOf Tryz.underlying35):=⟨Tryz.underlying35⟩
instance:Siz Tryz.prog 35 (kOf Tryz.sizeOf35):=⟨Tryz.sizeOf35⟩
instance:AgF Tryz.prog 35:=⟨Tryz.isAgg35⟩
instance:Und Tryz.prog 115 (dOf Tryz.underlying115):=⟨Tryz.underlying115⟩
instance:Siz Tryz.prog 115 (kOf Tryz.sizeOf115):=⟨Tryz.sizeOf115⟩
instance:AgF Tryz.prog 115:=⟨Tryz.isAgg115⟩
instance:Und Tryz.prog 117 (dOf Tryz.underlying117):=⟨Tryz.underlying117⟩
instance:Siz Tryz.prog 117 (kOf Tryz.sizeOf117):=⟨Tryz.sizeOf117⟩
instance:Und Tryz.prog 119 (dOf Tryz.underlying119):=⟨Tryz.underlying119⟩
instance:Siz Tryz.prog 119 (kOf Tryz.sizeOf119):=⟨Tryz.sizeOf119⟩
instance:Und Tryz.prog 121 (dOf Tryz.underlying121):=⟨Tryz.underlying121⟩
instance:Siz Tryz.prog 124 (kOf Tryz.sizeOf124):=⟨Tryz.sizeOf124⟩
instance:AgT Tryz.prog 124:=⟨Tryz.isAgg124⟩
instance:Und Tryz.prog 126 (dOf Tryz.underlying126):=⟨Tryz.underlying126⟩
instance:AgT Tryz.prog 126:=⟨Tryz.isAgg126⟩
instance:Und Tryz.prog 133 (dOf Tryz.underlying133):=⟨Tryz.underlying133⟩
instance:Siz Tryz.prog 133 (kOf Tryz.sizeOf133):=⟨Tryz.sizeOf133⟩
instance:AgF Tryz.prog 133:=⟨Tryz.isAgg133⟩
instance:Cal Tryz.prog 40:=⟨Tryz.call40⟩
instance:Cal Tryz.prog 76:=⟨Tryz.call76⟩
instance:Cal Tryz.prog 115:=⟨Tryz.call115⟩
attribute [local irreducible] V.CW V.LW V.QW V.RW V.PQ V.Val V.Eff V.Qcall
open V (str byC ownV ownG ownS ownOk)
theorem x_addI {a:Addr}{x y:Int}{w:World}(hc:w.cell? a=some (.int .i64 x))(hz:w.frozen? a=false):(callFunc 74 #[.pointer (some a),.int .i64 y]).run Tryz.prog w= .ok (.value (.int .i64 (IntKind.i64.wrap (x+y)))) (w.setCell a (.int .i64 (IntKind.i64.wrap (x+y)))):=run_call_add Tryz.func74 kr_ kr_ kr_ .i64 kr_ hc hz rfl
theorem addI_c (b o:Nat)(l:List Value)(T:Nat)(x y:Int)(w:World)(hl:l[o]? =some (.int .i64 x))(hs:Sat [[(b,.cells l.toArray T (0,0))]] w):Calls Tryz.prog 40 [.pointer (some ⟨b,o,none⟩),.int .i64 y].toArray w fun e w'=>∃_u:Unit,True∧e= .returned (.int .i64 (IntKind.i64.wrap (x+y)))∧Hp ⟨w,V.ids [[(b,.cells l.toArray T (0,0))]]⟩ [[(b,.cells (l.set o (.int .i64 (IntKind.i64.wrap (x+y)))).toArray T (0,0))]] w':=by
 refine Cs_ [[(b,.cells l.toArray T (0,0))]] Tryz.func40 rfl Tryz.ntmps40 hs<|pA_ 10 ?_
 refine LW.re 7 (.pointer (some ⟨b,o,none⟩)) rfl rfl<|Lv Mv<|Le (Eff.ext (l':=l.set o (.int .i64 (IntKind.i64.wrap (x+y)))) rfl .here rfl (fun w hb=>x_addI (V.cell_of_block hb (by exact hl)) (V.frozen_of hb))) fun _ _=>pA_ 5 ?_
 intro w' hw;exact⟨(),trivial,rfl,hw⟩
def thB (L:Nat)(line at_:Int)(n:Nat):Bool:=decide (0≤line∧line<L∧0≤at_∧at_≤64-n)
theorem ce_rep (n:Nat):V.repL (ceC ce0) n=(List.replicate n ce0).flatMap ceC:=by
 induction n with
 |zero=>rfl
 |succ n ih=>rw[List.replicate_succ,List.flatMap_cons,V.repL,ih]
def ct0:Cnt:=⟨0,0,0,0,0⟩
theorem newDev_c (n:Nat)(h1:1≤n)(h2:n≤258)(w:World):Calls Tryz.prog 18 [.int .i64 (n:Nat)].toArray w fun e w'=>∃p:Nat×Nat,True∧e= .returned (.tuple #[.pointer (some ⟨p.1,0,none⟩),.int .i64 0])∧Hp ⟨w,[]⟩ (devS p.1 p.2 (List.replicate n ce0) ct0) w':=by
 refine Cb_ Tryz.func18 rfl Tryz.ntmps18<|pA_ 11 ?_
 refine LW.re 5 (.bool false) rfl (by congr 1;simp;omega)<|pA_ 3 ?_
 refine LW.re 8 (.bool false) rfl (by congr 1;simp;omega)<|pA_ 9 ?_
 refine Le (Eff.makeSlice (m:=n) (by_:=193) (zl:=ceC ce0) rfl rfl Tryz.underlying115 kr_ Tryz.sizeOf126 (by exact Tryz.zeroValue126) kr_ (ceC_len _) om_ om_ om_) fun b11 _=>?_
 rw[ce_rep]
 refine Lv (Val.build (.slice (some ⟨b11,0,none⟩) n n::ctC ct0) Tryz.zeroValue121 Tryz.underlying121 places121 rfl (by rfl))<|Le XA fun b13 _=>pA_ 6 ?_
 have hl:(List.replicate n ce0).length=n:=List.length_replicate
 intro w' hw
 exact⟨(b13,b11),trivial,rfl,by unfold devS dvC;rw[hl];exact hw⟩
theorem cloneB_c (l:List UInt8)(p:Option Addr)(n c:Nat)(hn:n=l.length)(hl:l.length≤100000)(w:World)(h:V.slAt w p 1 byE l):Calls Tryz.prog 115 [.slice p n c].toArray w fun e w'=>∃o:V.OwnO,ownOk 1 l.length (l.flatMap byE) o∧e= .returned (ownV l.length o)∧Hp ⟨w,[]⟩ [ownG 5 (l.flatMap byE) o] w':=by
 subst hn
 refine Cb_ Tryz.func115 rfl Tryz.ntmps115<|pA_ 9 ?_
 refine Lv (Val.eqSlNil rfl rfl Tryz.underlying133)<|Nl<|Ps ?_
 refine Cd_ rfl (fun h4=>?_) fun h4=>?_
 ·have hpn:p=none:=by cases p with|none=>rfl|some q=>simp at h4
  obtain rfl:l=[]:=by
   rcases h with h|⟨b,o,h,_⟩
   ·exact h
   ·rw[hpn] at h;cases h
  refine pA_ 8 ?_
  intro w' hw;exact⟨none,⟨rfl,rfl⟩,rfl,hw.perm (.refl _)⟩
 ·refine pA_ 4 ?_
  refine Le (Eff.buildSlice0 Tryz.underlying133 Tryz.sizeOf5) fun b5 _=>Lv Mv<|Le (Eff.appendAny (l.flatMap byE) (sz:=1) (bytes:=1) (z:= .int .u8 0) (xs:=[]) (m0:=0) (o:=some (b5,[],0)) (m:=l.length) (pk:=[ownG 5 [] (some (b5,[],0))]) rfl rfl Tryz.underlying133 kr_ rfl om_ pk_ (by simp) ⟨rfl,rfl⟩ (V.flatMap_len byE_len _) (fun hm0=>by obtain⟨b8,o8,h8,h9⟩:=sl_range (F:=[]) byE_len h hm0 (by simp);exact⟨b8,o8,h8,fun w hw=>h9 w hw⟩) (all_one byE_one _) om_ om_) fun o2 ho2=>?_
  have h2:ownOk 1 l.length (l.flatMap byE) o2:=by simpa using ho2
  rw[List.nil_append,Nat.zero_add]
  refine pA_ 5 ?_
  exact fi_ o2 h2
def putB (b:B64)(at_:Nat)(l:List UInt8)(h:at_+l.length≤64):B64:=⟨b.1.take at_++l++b.1.drop (at_+l.length),by simp only[List.length_append,List.length_take,List.length_drop,b.2];omega⟩
theorem putB_c (b:B64)(at_:Nat)(l:List UInt8)(h:at_+l.length≤64):V.splice (byC b.1) at_ (byC l)=byC (putB b at_ l h).1:=by
 rw[splice_cut _ _ _ (by rw[V.byC_len,V.byC_len,b.2];exact h)]
 unfold putB
 simp only[V.byC_append,V.byC_len]
 congr 1
 ·congr 1;exact(List.map_take ..).symm
 ·exact(List.map_drop ..).symm
theorem ce_put (c:Ce)(at_:Nat)(l:List UInt8)(h:at_+l.length≤64):V.splice (ceC c) at_ (byC l)=ceC {c with now:=putB c.now at_ l h}:=by
 rw[ce_at0,splice_left _ _ _ _ (by rw[V.byC_len,byC64];exact h),putB_c _ _ _ h]
 rfl
def fenB (c:Ce):Ce:=if c.sent=true then {c with kept:=c.way,sent:=false} else c
def fenL (D:List Ce)(j:Nat):List Ce:=(D.take j).map fenB++D.drop j
theorem fenL_len (D:List Ce)(j:Nat):(fenL D j).length=D.length:=by unfold fenL;simp;omega
theorem fenL_at {D:List Ce}{j:Nat}{c:Ce}(hc:D[j]? =some c):(fenL D j)[j]? =some c:=by
 have hj:=(List.getElem?_eq_some_iff.1 hc).1
 unfold fenL
 rw[List.getElem?_append_right (by simp;omega),List.getElem?_drop]
 simp only[List.length_map,List.length_take]
 rw[show j+(j-min j D.length)=j by omega,hc]
theorem fenL_step {D:List Ce}{j:Nat}{c:Ce}(hc:D[j]? =some c):(fenL D j).set j (fenB c)=fenL D (j+1):=by
 have hj:=(List.getElem?_eq_some_iff.1 hc).1
 unfold fenL
 have hl:((D.take j).map fenB).length=j:=by simp;omega
 rw[List.set_append_right _ _ om_,hl,Nat.sub_self,List.drop_eq_getElem_cons hj,List.set_cons_zero,List.take_add_one,hc]
 simp
end
section
instance:Und Tryz.prog 48 (dOf Tryz.underlying48):=⟨Tryz.underlying48⟩
instance:Siz Tryz.prog 48 (kOf Tryz.sizeOf48):=⟨Tryz.sizeOf48⟩
instance:AgF Tryz.prog 48:=⟨Tryz.isAgg48⟩
instance:Und Tryz.prog 93 (dOf Tryz.underlying93):=⟨Tryz.underlying93⟩
instance:Siz Tryz.prog 93 (kOf Tryz.sizeOf93):=⟨Tryz.sizeOf93⟩
instance:Cal Tryz.prog 141:=⟨Tryz.call141⟩
instance:Cal Tryz.prog 184:=⟨Tryz.call184⟩
instance:Cal Tryz.prog 224:=⟨Tryz.call224⟩
attribute [local irreducible] V.CW V.LW V.QW V.RW V.PQ V.Val V.Eff V.Qcall
open V (str byC ownV ownG ownS ownOk)
theorem check_c (p:Option Addr)(L cp at_ n:Nat)(h1:1≤n∧n≤8)(h2:at_+n≤L)(h3:L≤100000):Rz Tryz.prog 141 [.slice p L cp,.int .i64 (at_:Nat),.int .i64 (n:Nat)] (.int .i64 0):=by
 intro w
 refine Cb_ Tryz.func141 rfl Tryz.ntmps141<|pA_ 10 ?_
 refine LW.re 8 (.bool false) rfl (by first|(simp;done)|(simp;omega))<|pA_ 3 ?_
 refine LW.re 11 (.bool false) rfl (by first|(simp;done)|(simp;omega))<|pA_ 11 ?_
 refine LW.re 14 (.bool false) rfl (by first|(simp;done)|(simp;omega))<|pA_ 7 ?_
 refine LW.re 21 (.bool false) rfl (by first|(simp;done)|(simp;omega))<|pA_ 13 ?_
 intro w hw;exact⟨rfl,hw.below⟩
def shB (v:Int)(i:Nat):UInt8:=UInt8.ofNat (IntKind.u8.wrap (v.fdiv (2^(min ((8:Int)*(i:Nat)).toNat IntKind.u64.bits)))).toNat
theorem u8_byte (x:Int):IntKind.u8.wrap x=(((UInt8.ofNat (IntKind.u8.wrap x).toNat).toNat:Nat):Int):=by
 rw[IntKind.wrap_u8]
 simp
 omega
def putN (l:List UInt8)(at_:Nat)(v:Int):Nat→List UInt8
 |0=>l
 |n+1=>(putN l at_ v n).set (at_+n) (shB v n)
theorem putN_len (l:List UInt8)(at_:Nat)(v:Int):∀n,(putN l at_ v n).length=l.length
 |0=>rfl
 |n+1=>by rw[putN,List.length_set,putN_len l at_ v n]
def fitB (v:Int)(n:Nat):Bool:= !(decide ((n:Int)<8)&&(v.fdiv (2^(min ((8:Int)*(n:Nat)).toNat IntKind.u64.bits))!=0))
def putR (l:List UInt8)(at_:Nat)(v:Int)(n:Nat):List UInt8:=if fitB v n=true then putN l at_ v n else[]
theorem set_byE (l:List UInt8)(rest:List Value)(i:Nat)(u:UInt8)(h:i<l.length):(l.flatMap byE++rest).set (0+i*1) (.int .u8 (u.toNat:Nat))=(l.set i u).flatMap byE++rest:=by
 have h8:=V.splice_flat byE_len l i u rest h
 rw[Nat.zero_add]
 exact h8
theorem put_c (l:List UInt8)(p:Option Addr)(cp at_ n:Nat)(v:Int)(h1:1≤n∧n≤8)(h2:at_+n≤l.length)(h3:l.length≤1000)(w:World)(hp:V.slAt w p 1 byE l):Calls Tryz.prog 99 [.slice p l.length cp,.int .i64 (at_:Nat),.int .i64 (n:Nat),.int .u64 v].toArray w fun e w'=>∃o:V.OwnO,ownOk 1 (putR l at_ v n).length ((putR l at_ v n).flatMap byE) o∧e= .returned (.tuple #[ownV (putR l at_ v n).length o,.int .i64 (if fitB v n=true then 0 else 11)])∧Hp ⟨w,[]⟩ [ownG 5 ((putR l at_ v n).flatMap byE) o] w':=by
 refine Cb_ Tryz.func99 rfl Tryz.ntmps99<|pA_ 12 ?_
 refine Le (Cz_ (check_c p l.length cp at_ n h1 h2 om_)) fun _ _=>pA_ 7 ?_
 refine LW.re 18 (.bool false) rfl (by rfl)<|pA_ 11 ?_
 refine LW.split (d:=22) rfl (fun h22=>?_) (fun h22=>?_)
 ·replace h22:=bT h22
  have h22:(n:Int)<8:=h22
  refine pA_ 3 ?_
  refine Lv (Val.shr rfl rfl om_)<|pA_ 4 ?_
  refine Cd_ rfl (fun h28=>?_) fun h28=>?_
  ·refine pA_ 9 ?_
   have hf:fitB v n=false:=by unfold fitB;simp_all
   have hr:putR l at_ v n=[]:=by unfold putR;rw[if_neg (by simp[hf])]
   rw[hr,hf]
   intro w' hw;exact⟨none,⟨rfl,rfl⟩,rfl,(hw.pick (ss:=[]) .nil).perm (.refl _)⟩
  ·have hfit:fitB v n=true:=by unfold fitB;simp_all
   refine pA_ 5 ?_
   refine Le (CM [] fun w hw hs0=>cloneB_c l p _ cp rfl om_ w (hw.slAt hp (by simp[ids]))) fun o ho=>?_
   obtain⟨⟨gb,rest,cap⟩,rfl⟩:∃q,o=some q:=by
    rcases o with _|q
    ·have h9:l.length=0:=ho.2
     omega
    ·exact⟨q,rfl⟩
   refine LW.re 30 (.slice (some ⟨gb,0,none⟩) l.length cap) rfl (by rfl)<|pA_ 11 ?_
   refine V.CW.perm (sg':=[[(gb,.cells ((putN l at_ v 0).flatMap byE++rest).toArray 5 (0,0))]]) ?_ (by simp[V.ownG,V.ownS,putN])
   refine loopA (γ:=Nat) (fun j=>[(1,.int .i64 (at_:Nat)),(3,.int .u64 v),(11,.slice (some ⟨gb,0,none⟩) l.length cap),(31,.int .i64 (n:Nat)),(32,.int .i64 (j:Nat))]) (fun j=>[[(gb,.cells ((putN l at_ v j).flatMap byE++rest).toArray 5 (0,0))]]) (fun j=>j≤n) (fun j=>n-j) (0) (Nat.zero_le _) fun j hj=>pA_ 6 ?_
   refine Cd_ rfl (fun h33=>?_) fun h33=>?_
   ·refine pA_ 15 ?_
    refine LW.re 38 (.int .i64 ((at_+j:Nat):Int)) rfl (by congr 1)<|pA_ 3 ?_
    refine Lv (Val.shr rfl rfl om_)<|Lv Cv<|LW.re 43 (.int .u8 ((shB v j).toNat:Nat)) rfl (by congr 1;exact u8_byte _)<|Lv (Val.indexAddrN (i:=at_+j) rfl rfl Tryz.underlying133 Tryz.sizeOf5 om_)<|LeN (Eff.storeX (l':=(putN l at_ v (j+1)).flatMap byE++rest) rfl rfl rfl up_ (set_byE _ rest (at_+j) (shB v j) (by rw[putN_len];omega)) (by rw[List.length_append,V.flatMap_len byE_len,putN_len];omega) Tryz.sizeOf5) fun _ _=>pA_ 7 ?_
    exact roundA (j+1) om_ om_
   ·refine pA_ 14 ?_
    have hfit:fitB v n=true:=by first|assumption|(unfold fitB;simp;omega)
    have hj9:j=n:=by omega
    subst hj9
    have hr:putR l at_ v j=putN l at_ v j:=by unfold putR;rw[if_pos hfit]
    rw[hr,hfit]
    intro w' hw;exact⟨some (gb,rest,cap),⟨V.flatMap_len byE_len _,by rw[V.flatMap_len byE_len,putN_len];have h8:(l.flatMap byE).length+rest.length=cap*1:=ho.2;rw[V.flatMap_len byE_len] at h8;exact h8⟩,by rw[putN_len];rfl,hw.pick pk_⟩
 ·replace h22:=bF h22
  have h22:8≤(n:Int):=h22
  refine pA_ 14 ?_
  refine Le (CM [] fun w hw hs0=>cloneB_c l p _ cp rfl om_ w (hw.slAt hp (by simp[ids]))) fun o ho=>?_
  obtain⟨⟨gb,rest,cap⟩,rfl⟩:∃q,o=some q:=by
   rcases o with _|q
   ·have h9:l.length=0:=ho.2
    omega
   ·exact⟨q,rfl⟩
  refine LW.re 30 (.slice (some ⟨gb,0,none⟩) l.length cap) rfl (by rfl)<|pA_ 11 ?_
  refine V.CW.perm (sg':=[[(gb,.cells ((putN l at_ v 0).flatMap byE++rest).toArray 5 (0,0))]]) ?_ (by simp[V.ownG,V.ownS,putN])
  refine loopA (γ:=Nat) (fun j=>[(1,.int .i64 (at_:Nat)),(3,.int .u64 v),(11,.slice (some ⟨gb,0,none⟩) l.length cap),(31,.int .i64 (n:Nat)),(32,.int .i64 (j:Nat))]) (fun j=>[[(gb,.cells ((putN l at_ v j).flatMap byE++rest).toArray 5 (0,0))]]) (fun j=>j≤n) (fun j=>n-j) (0) (Nat.zero_le _) fun j hj=>pA_ 6 ?_
  refine Cd_ rfl (fun h33=>?_) fun h33=>?_
  ·refine pA_ 15 ?_
   refine LW.re 38 (.int .i64 ((at_+j:Nat):Int)) rfl (by congr 1)<|pA_ 3 ?_
   refine Lv (Val.shr rfl rfl om_)<|Lv Cv<|LW.re 43 (.int .u8 ((shB v j).toNat:Nat)) rfl (by congr 1;exact u8_byte _)<|Lv (Val.indexAddrN (i:=at_+j) rfl rfl Tryz.underlying133 Tryz.sizeOf5 om_)<|LeN (Eff.storeX (l':=(putN l at_ v (j+1)).flatMap byE++rest) rfl rfl rfl up_ (set_byE _ rest (at_+j) (shB v j) (by rw[putN_len];omega)) (by rw[List.length_append,V.flatMap_len byE_len,putN_len];omega) Tryz.sizeOf5) fun _ _=>pA_ 7 ?_
   exact roundA (j+1) om_ om_
  ·refine pA_ 14 ?_
   have hfit:fitB v n=true:=by first|assumption|(unfold fitB;simp;omega)
   have hj9:j=n:=by omega
   subst hj9
   have hr:putR l at_ v j=putN l at_ v j:=by unfold putR;rw[if_pos hfit]
   rw[hr,hfit]
   intro w' hw;exact⟨some (gb,rest,cap),⟨V.flatMap_len byE_len _,by rw[V.flatMap_len byE_len,putN_len];have h8:(l.flatMap byE).length+rest.length=cap*1:=ho.2;rw[V.flatMap_len byE_len] at h8;exact h8⟩,by rw[putN_len];rfl,hw.pick pk_⟩
def getStep (v:Int)(b:UInt8)(i:Nat):Int:=IntKind.u64.wrap (BitVec.ofInt IntKind.u64.bits v|||BitVec.ofInt IntKind.u64.bits (IntKind.u64.wrap (IntKind.u64.wrap ((b.toNat:Nat):Int)*2^(min ((8:Int)*(i:Nat)).toNat IntKind.u64.bits)))).toNat
def getN (l:List UInt8)(at_:Nat):Nat→Int
 |0=>0
 |n+1=>getStep (getN l at_ n) (l.getD (at_+n) 0) n
theorem get_c (l:List UInt8)(p:Option Addr)(cp at_ n:Nat)(h1:1≤n∧n≤8)(h2:at_+n≤l.length)(h3:l.length≤1000)(w:World)(hp:V.slAt w p 1 byE l):Calls Tryz.prog 137 [.slice p l.length cp,.int .i64 (at_:Nat),.int .i64 (n:Nat)].toArray w fun e w'=>e= .returned (.tuple #[.int .u64 (getN l at_ n),.int .i64 0])∧Below w.heap.size w w':=by
 obtain⟨pb,po,_,rfl,hpb,_,hpr⟩:=V.slAt_at hp rfl (k:=0) om_
 refine Cb_ Tryz.func137 rfl Tryz.ntmps137<|pA_ 12 ?_
 refine Le (Cz_ (check_c _ l.length cp at_ n h1 h2 om_)) fun _ _=>pA_ 7 ?_
 refine LW.re 16 (.bool false) rfl (by rfl)<|pA_ 18 ?_
 refine loopA (γ:=Nat) (fun j=>[(0,.slice (some ⟨pb,po,none⟩) l.length cp),(1,.int .i64 (at_:Nat)),(9,.int .u64 (getN l at_ j)),(18,.int .i64 (n:Nat)),(19,.int .i64 (j:Nat))]) (fun _=>[]) (fun j=>j≤n) (fun j=>n-j) (0) (Nat.zero_le _) fun j hj=>pA_ 6 ?_
 refine Cd_ rfl (fun h20=>?_) fun h20=>?_
 ·obtain⟨u,huj⟩:∃u,l[at_+j]? =some u:=⟨_,List.getElem?_eq_getElem (show at_+j<l.length by omega)⟩
  have hu:l.getD (at_+j) 0=u:=by rw[List.getD_eq_getElem?_getD,huj];rfl
  refine pA_ 16 ?_
  refine LW.re 26 (.int .i64 ((at_+j:Nat):Int)) rfl (by congr 1)<|Lv (Val.indexAddrN (i:=at_+j) rfl rfl Tryz.underlying133 Tryz.sizeOf5 om_)<|Lv (Val.loadO rfl Tryz.isAgg5 hpb (by simp[ids]) (hpr _ u huj 0 _ rfl))<|pA_ 3 ?_
  refine Lv (Val.shl rfl rfl om_)<|Lv (Val.or rfl rfl)<|LW.re 33 (.int .u64 (getN l at_ (j+1))) rfl (by rw[getN,hu];rfl)<|pA_ 8 ?_
  exact roundA (j+1) om_ om_
 ·refine pA_ 14 ?_
  have hj9:j=n:=by omega
  subst hj9
  exact fb_
def xorI (a b:Int):Int:=IntKind.u32.wrap (BitVec.ofInt IntKind.u32.bits a^^^BitVec.ofInt IntKind.u32.bits b).toNat
def stepOne (c:Int):Int:=if c.tmod 2=0 then IntKind.u32.wrap (c.tdiv 2) else xorI (IntKind.u32.wrap (c.tdiv 2)) 3988292384
def stepK:Nat→Int→Int
 |0,c=>c
 |k+1,c=>stepOne (stepK k c)
def stepB (c:Int)(b:UInt8):Int:=stepK 8 (xorI c (IntKind.u32.wrap ((b.toNat:Nat):Int)))
def sumF (l:List UInt8):Int:=xorI (l.foldl stepB (xorI 0 4294967295)) 4294967295
theorem step_c (c:Int)(b:UInt8):Rz Tryz.prog 224 [.int .u32 c,.int .u8 ((b.toNat:Nat):Int)] (.int .u32 (stepB c b)):=by
 intro w
 refine Cb_ Tryz.func224 rfl Tryz.ntmps224<|pA_ 5 ?_
 refine CW.scope<|pA_ 5 ?_
 refine Lv (Val.xor rfl rfl)<|LW.re 9 (.int .u32 (xorI c (IntKind.u32.wrap ((b.toNat:Nat):Int)))) rfl (by rfl)<|pA_ 9 ?_
 refine CW.label<|pA_ 3 ?_
 refine loopA (γ:=Nat) (fun j=>[(0,.int .u32 (stepK j (xorI c (IntKind.u32.wrap ((b.toNat:Nat):Int))))),(5,.int .i64 (j:Nat))]) (fun _=>[]) (fun j=>j≤8) (fun j=>8-j) (0) om_ fun j hj=>pA_ 7 ?_
 refine Cd_ rfl (fun h11=>?_) fun h11=>?_
 ·refine pA_ 14 ?_
  refine Lv (Val.rem rfl rfl om_)<|pA_ 3 ?_
  refine Cd_ rfl (fun h16=>?_) fun h16=>?_
  ·have h16:(stepK j (xorI c (IntKind.u32.wrap ((b.toNat:Nat):Int)))).tmod 2=0:=h16
   refine pA_ 3 ?_
   refine Lv (Val.quo rfl rfl om_)<|LW.re 18 (.int .u32 (stepK (j+1) (xorI c (IntKind.u32.wrap ((b.toNat:Nat):Int))))) rfl (by rw[stepK,stepOne,if_pos h16])<|pA_ 6 ?_
   exact roundA (j+1) om_ om_
  ·have h16:¬(stepK j (xorI c (IntKind.u32.wrap ((b.toNat:Nat):Int)))).tmod 2=0:=h16
   refine pA_ 4 ?_
   refine Lv (Val.quo rfl rfl om_)<|Lv (Val.xor rfl rfl)<|LW.re 21 (.int .u32 (stepK (j+1) (xorI c (IntKind.u32.wrap ((b.toNat:Nat):Int))))) rfl (by rw[stepK,stepOne,if_neg h16];rfl)<|pA_ 3 ?_
   exact roundA (j+1) om_ om_
 ·refine pA_ 14 ?_
  have hj9:j=8:=by omega
  subst hj9
  exact fb_
theorem fold_take {l:List UInt8}{j:Nat}{u:UInt8}(h:l[j]? =some u)(c:Int):(l.take (j+1)).foldl stepB c=stepB ((l.take j).foldl stepB c) u:=by rw[List.take_add_one,h,List.foldl_append];rfl
theorem sumAdd_c (l:List UInt8)(p:Option Addr)(cp:Nat)(hl:l.length≤100000)(w:World)(hp:V.slAt w p 1 byE l):Calls Tryz.prog 184 [.int .u32 0,.slice p l.length cp].toArray w fun e w'=>e= .returned (.int .u32 (sumF l))∧Below w.heap.size w w':=by
 refine Cb_ Tryz.func184 rfl Tryz.ntmps184<|pA_ 8 ?_
 refine Lv (Val.xor rfl rfl)<|LW.re 8 (.int .u32 (xorI 0 4294967295)) rfl (by rfl)<|pA_ 12 ?_
 refine loopA (γ:=Nat) (fun j=>[(0,.int .u32 ((l.take j).foldl stepB (xorI 0 4294967295))),(9,.slice p l.length cp),(10,.int .i64 (l.length:Nat)),(11,.int .i64 (j:Nat))]) (fun _=>[]) (fun j=>j≤l.length) (fun j=>l.length-j) (0) (Nat.zero_le _) fun j hj=>pA_ 6 ?_
 refine Cd_ rfl (fun h12=>?_) fun h12=>?_
 ·obtain⟨pb,po,u,rfl,hpb,huj,hpr⟩:=V.slAt_at hp rfl (k:=j) om_
  refine pA_ 7 ?_
  refine Lv (Val.loadO rfl Tryz.isAgg5 hpb (by simp[ids]) (hpr j u huj 0 _ rfl))<|pA_ 6 ?_
  refine Le (Cz_ (step_c ((l.take j).foldl stepB (xorI 0 4294967295)) u)) fun _ _=>LW.re 17 (.int .u32 ((l.take (j+1)).foldl stepB (xorI 0 4294967295))) rfl (by rw[fold_take huj])<|pA_ 8 ?_
  exact roundA (j+1) om_ om_
 ·have hte:l.take j=l:=List.take_of_length_le om_
  refine pA_ 8 ?_
  refine Lv (Val.xor rfl rfl)<|LW.re 20 (.int .u32 (sumF l)) rfl (by rw[hte];rfl)<|pA_ 5 ?_
  exact fb_
theorem sum_c (l:List UInt8)(p:Option Addr)(cp:Nat)(hl:l.length≤100000)(w:World)(hp:V.slAt w p 1 byE l):Calls Tryz.prog 142 [.slice p l.length cp].toArray w fun e w'=>e= .returned (.int .u32 (sumF l))∧Below w.heap.size w w':=by
 refine Cb_ Tryz.func142 rfl Tryz.ntmps142<|pA_ 8 ?_
 refine Le (CV fun w hw=>sumAdd_c l p cp hl w (hw.slAt hp (by simp[ids]))) fun _ _=>pA_ 5 ?_
 exact fb_
end
section
instance:AgT Tryz.prog 185:=⟨Tryz.isAgg185⟩
instance:Cal Tryz.prog 99:=⟨Tryz.call99⟩
instance:Cal Tryz.prog 142:=⟨Tryz.call142⟩
attribute [local irreducible] V.CW V.LW V.QW V.RW V.PQ V.Val V.Eff V.Qcall
open V (str byC ownV ownG ownS ownOk)
def padB (l:List UInt8):List UInt8:=l++List.replicate (64-l.length) 0
theorem padB_len {l:List UInt8}(h:l.length≤64):(padB l).length=64:=by unfold padB;simp;omega
def sealL (l:List UInt8):List UInt8:=putN (padB l) 9 (IntKind.u64.wrap (sumF l)) 4
theorem sealL_len {l:List UInt8}(h:l.length≤64):(sealL l).length=64:=by unfold sealL;rw[putN_len,padB_len h]
theorem sum_fit (l:List UInt8):fitB (IntKind.u64.wrap (sumF l)) 4=true:=by
 have h:0≤sumF l∧sumF l<4294967296:=by
  unfold sumF xorI
  rw[IntKind.wrap_u32]
  omega
 rw[IntWalk.u64_in _ om_]
 unfold fitB
 have h2:(sumF l).fdiv (2^(min ((8:Int)*((4:Nat):Int)).toNat IntKind.u64.bits))=0:=by
  have e:(2:Int)^(min ((8:Int)*((4:Nat):Int)).toNat IntKind.u64.bits)=4294967296:=by decide
  rw[e,Int.fdiv_eq_ediv_of_nonneg _ om_]
  omega
 rw[h2]
 simp
theorem putR_fit {l:List UInt8}{at_:Nat}{v:Int}{n:Nat}(h:fitB v n=true):putR l at_ v n=putN l at_ v n:=by unfold putR;rw[if_pos h]
theorem some_of {n:Nat}{xs:List Value}{o:V.OwnO}(h:ownOk 1 n xs o)(hn:0<n):∃g r c,o=some (g,r,c):=by
 rcases o with _|⟨g,r,c⟩
 ·have h0:n=0:=h.2
  omega
 ·exact⟨g,r,c,rfl⟩
theorem pad_copy (l:List UInt8)(h:l.length≤64):(byC z64.1).take 0++byC l++(byC z64.1).drop (0+(byC l).length)=byC (padB l):=by
 unfold padB z64
 rw[V.byC_append,V.byC_len,Nat.zero_add,List.take_zero,List.nil_append]
 congr 1
 show List.drop l.length (List.map _ (List.replicate 64 0))=List.map _ (List.replicate (64-l.length) 0)
 rw[List.map_replicate,List.map_replicate,List.drop_replicate]
theorem sealed_c (l:List UInt8)(p:Option Addr)(cp:Nat)(h0:0<l.length)(h64:l.length≤64)(w:World)(hp:V.slAt w p 1 byE l):Calls Tryz.prog 100 [.slice p l.length cp].toArray w fun e w'=>e= .returned (.agg (byC (sealL l)).toArray)∧Below w.heap.size w w':=by
 obtain⟨pb,po,rfl,hpr⟩:=sl_range (F:=[]) byE_len hp h0 (by simp)
 refine Cb_ Tryz.func100 rfl Tryz.ntmps100<|Sq<|Rg<|Le (AA (l:=byC z64.1) (hz:=by exact Tryz.zeroValue185)) fun b2 _=>Nl<|Ps<|Sq<|Rg<|Le (AA (l:=byC z64.1) (hz:=by exact Tryz.zeroValue185)) fun b3 _=>Nl<|Ps<|Sq<|Rg<|Lv (Val.sliceArr 0 64 rfl Tryz.underlying185 Tryz.sizeOf5 rfl rfl om_ om_)<|LW.re 6 (.slice (some ⟨b3,0,none⟩) 64 64) rfl (by simp)<|Lv Mv<|Le (Eff.copyT (cs:=byC l) (gb:=b3) (cur:=(byC z64.1)) (cells':=(byC (padB l))) (m:=l.length) (sz:=1) rfl rfl Tryz.underlying133 kr_ up_ (pad_copy l h64) (show min (l.length) (64)=_ from by omega) (by rw[V.byC_len,Nat.mul_one]) (fun w1 hw1 j u hj=>by rw[Addr.add_mid];exact(hpr w1 hw1) j u (by rw[← byC_flat];exact hj)) (by rw[V.byC_len,byC64];omega) (V.byC_one _)) fun _ _=>Nl<|Ps<|Sq<|Dr ([])<|Rv 0 rfl (Val.sliceArr 0 64 rfl Tryz.underlying185 Tryz.sizeOf5 rfl rfl om_ om_)<|RW.re 10 (.slice (some ⟨b3,0,none⟩) (padB l).length 64) rfl (by rw[padB_len h64];simp)<|Rv 1 rfl Mv<|Re 2 rfl (CV fun w hw=>sum_c l _ cp om_ w (hw.slAt hp (by simp[ids]))) fun _ _=>Rv 3 rfl Cv<|Re 4 rfl (CM [] fun w hw hs0=>put_c (padB l) _ 64 9 4 (IntKind.u64.wrap (sumF l)) om_ (by rw[padB_len h64];omega) (by rw[padB_len h64];omega) w (V.slAt_flat (r:=[]) hw byE_len (by rw[byC_flat,List.append_nil]) (show InS (b3,.cells (byC (padB l)).toArray 185 (0,0)) _ from in_))) fun o ho=>?_
 rw[putR_fit (sum_fit l),sum_fit l] at*
 obtain⟨gb,rest,cap,rfl⟩:=some_of ho (by rw[putN_len,padB_len h64];omega)
 refine Rv 5 rfl Mv<|Rv 6 rfl Ex<|Rv 7 rfl Ex<|Rv 8 rfl Av<|RW.re 4 (.slice (some ⟨gb,0,none⟩) 64 cap) rfl (by rw[putN_len,padB_len h64];rfl)<|Rv 9 rfl Av<|Rd<|Ps<|Sq<|Rg<|Lv (Val.sliceArr 0 64 rfl Tryz.underlying185 Tryz.sizeOf5 rfl rfl om_ om_)<|LW.re 17 (.slice (some ⟨b3,0,none⟩) 64 64) rfl (by simp)<|Lv Mv<|Le (Eff.copyT (cs:=byC (sealL l)) (gb:=b3) (cur:=(byC (padB l))) (cells':=(byC (sealL l))) (m:=64) (sz:=1) rfl rfl Tryz.underlying133 kr_ up_ (by rw[V.byC_len,sealL_len h64,List.drop_eq_nil_iff.2 (by rw[V.byC_len,padB_len h64];omega)];simp) (show min (64) (64)=_ from by omega) (by rw[V.byC_len,Nat.mul_one];exact sealL_len h64) (fun w1 hw1 j u hj=>by rw[Addr.add_mid];exact(V.range_of_block (o:=0) (r:=rest) (hw1.at (b:=gb)) rfl) j u (by rw[← byC_flat];exact hj)) (by rw[V.byC_len,V.byC_len,sealL_len h64,padB_len h64];omega) (V.byC_one _)) fun _ _=>Nl<|Ps<|Sq<|Rg<|Lv (Lw (l:=byC (sealL l)) (hs:=by rw[V.byC_len,sealL_len h64];exact Tryz.sizeOf185))<|LeN (StW (cs:=byC (sealL l)) (hlen:=by rw[V.byC_len (sealL l),sealL_len h64];exact byC64 z64) (hs:=by rw[V.byC_len,sealL_len h64];exact Tryz.sizeOf185) (h1:=V.byC_one _)) fun _ _=>Nl<|Ps<|Rt<|V.PQ.retC (l:=byC (sealL l)) rfl rfl in_ Tryz.isAgg185 (by rw[V.byC_len,sealL_len h64];exact Tryz.sizeOf185) ?_
 exact fb_
end
end Go.Proofs.YtjidffamcdcecaaGreat
