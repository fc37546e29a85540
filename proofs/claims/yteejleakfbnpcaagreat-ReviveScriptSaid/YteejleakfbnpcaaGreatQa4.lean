import Derived.Test.YteejleakfbnpcaaGreatQa3
/- What the law leans on, part 4. -/
namespace Go.Proofs.YteejleakfbnpcaaGreat
open Go Go.RowKit V
set_option linter.unusedVariables false
set_option maxRecDepth 100000
set_option maxHeartbeats 1000000
namespace G
section
attribute [local irreducible] V.CW V.LW V.QW V.RW V.PQ V.Val V.Eff V.Qcall
open V (str byC ownV ownG ownS ownOk)
def wip1 (D:List Ce)(f:Fnd):List Ce:=upD (stD D f.line 0 (draftL f.b.cls)) f.line (fun c=>{c with way:=c.now,sent:=true})
def wl (D:List Ce)(fs:List Fnd):List Ce:=fs.foldl wip1 D
theorem wipeV_D (v:Dev)(f:Fnd):(wipeV v f).D=wip1 v.D f:=rfl
theorem wl_snoc (D:List Ce)(fs:List Fnd)(f:Fnd):wl D (fs++[f])=wip1 (wl D fs) f:=by unfold wl;rw[List.foldl_append];rfl
theorem nextW_take {q:Fnd→Bool}:∀{l:List Fnd} {y:Nat×Fnd},nextW q l=some y→(l.take (y.1+1)).filter q=[y.2]
 |[],y,h=>by cases h
 |f::r,y,h=>by
  unfold nextW at h
  split at h
  ·rename_i hq
   simp only[Option.some.injEq] at h
   subst h
   simp[hq]
  ·rename_i hq
   rw[Option.map_eq_some_iff] at h
   obtain⟨z,hz,rfl⟩:=h
   have h8:=nextW_take hz
   simp only[List.take_succ_cons,List.filter_cons,hq]
   simpa using h8
theorem nextW_none {q:Fnd→Bool}:∀{l:List Fnd},nextW q l=none→l.filter q=[]
 |[],_=>rfl
 |f::r,h=>by
  unfold nextW at h
  split at h
  ·cases h
  ·rename_i hq
   rw[Option.map_eq_none_iff] at h
   simp only[List.filter_cons,hq]
   simpa using nextW_none h
def fds (D:List Ce)(m:Int):List Fnd:=(List.range m.toNat).filterMap fun i=>scN D (i:Nat)
theorem fds_succ (D:List Ce){m:Int}(h:0≤m):fds D (m+1)=scFd D m (fds D m):=by
 unfold fds scFd
 rw[show(m+1).toNat=m.toNat+1 by omega,List.range_succ,List.filterMap_append]
 have e:List.filterMap (fun i:Nat=>scN D (i:Nat)) [m.toNat]=(scN D m).toList:=by
  simp only[List.filterMap_cons,List.filterMap_nil]
  rw[show((m.toNat:Nat):Int)=m by omega]
  cases scN D m<;>rfl
 rw[e]
 cases scN D m<;>simp
structure Cln (D0:List Ce)(v:Dev)(c:Cor):Prop where
 p2:c.ph≤2→v.D=D0
 f1:c.ph=1→c.fd=fds D0 c.nx
 f2:2≤c.ph→c.ph≤6→c.fd=fds D0 (slabsF D0.length*8)
 p3:c.ph=3→v.D=wl D0 ((c.fd.take c.nx.toNat).filter (scrubF c.e c.fd))
 p4:c.ph=4→v.D=wl ((wl D0 (c.fd.filter (scrubF c.e c.fd))).map fenB) ((c.fd.take c.nx.toNat).filter (antiF c.e))
 p5:5≤c.ph→c.ph≤6→v.D=(wl ((wl D0 (c.fd.filter (scrubF c.e c.fd))).map fenB) (c.fd.filter (antiF c.e))).map fenB
theorem take_more {q:Fnd→Bool}{fd:List Fnd}{nx:Int}{y:Nat×Fnd}(h0:0≤nx)(h:nextW q (fd.drop nx.toNat)=some y):(fd.take (nx+((y.1+1:Nat):Int)).toNat).filter q=(fd.take nx.toNat).filter q++[y.2]:=by
 rw[show(nx+((y.1+1:Nat):Int)).toNat=nx.toNat+(y.1+1) by omega,List.take_add,List.filter_append,nextW_take h]
theorem take_all {q:Fnd→Bool}{fd:List Fnd}{nx:Int}(h:nextW q (fd.drop nx.toNat)=none):(fd.take nx.toNat).filter q=fd.filter q:=by
 have e:=nextW_none h
 conv=>rhs;rw[← List.take_append_drop nx.toNat fd,List.filter_append,e,List.append_nil]
theorem Cln.step {n:Nat}{D0:List Ce}{v:Dev}{c:Cor}(h:Cln D0 v c)(hI:Inv n v c)(hn:D0.length=n):Cln D0 (stp v c).1 (stp v c).2.1:=by
 have hp:=hI.ph
 have hnx:=hI.nx
 have hlen:=hI.len
 unfold stp
 by_cases h0:c.ph=0
 ·rw[if_pos h0]
  have hv:=h.p2 om_
  have hf:=hI.f0 h0
  simp only
  split
  ·exact⟨fun _=>hv,fun _=>by simp only;rw[List.length_eq_zero_iff.1 hf];rfl,fun h8=>absurd h8 (by simp),fun h8=>absurd h8 (by simp),fun h8=>absurd h8 (by simp),fun h8=>absurd h8 (by simp)⟩
  ·exact⟨fun _=>hv,fun h8=>absurd h8 (by simp),fun _ h8=>absurd h8 (by simp),fun h8=>absurd h8 (by simp),fun h8=>absurd h8 (by simp),fun _ h8=>absurd h8 (by simp)⟩
 rw[if_neg h0]
 by_cases h1:c.ph=1
 ·rw[if_pos h1]
  have hv:=h.p2 om_
  have hf:=h.f1 h1
  obtain⟨hn1,hn2⟩:=hI.n2 h1
  have hs:=fds_succ D0 hnx
  simp only
  unfold scC
  rw[hv,hf,← hs]
  split
  ·rename_i hh
   refine⟨fun _=>hv,fun h8=>absurd h8 (by simp),fun _ _=>?_,fun h8=>absurd h8 (by simp),fun h8=>absurd h8 (by simp),fun h8=>absurd h8 (by simp)⟩
   simp only
   rw[hn] at hh⊢
   congr 1;omega
  ·exact⟨fun _=>hv,fun _=>rfl,fun h8=>absurd h8 (by simp only;omega),fun h8=>absurd h8 (by simp only;omega),fun h8=>absurd h8 (by simp only;omega),fun h8=>absurd h8 (by simp only;omega)⟩
 rw[if_neg h1]
 by_cases h2:c.ph=2
 ·rw[if_pos h2]
  have hv:=h.p2 om_
  have hf:=h.f2 om_ om_
  simp only
  split
  ·exact⟨fun _=>hv,fun h8=>absurd h8 (by simp),fun _ _=>hf,fun _=>by simp[wl,hv],fun h8=>absurd h8 (by simp),fun h8=>absurd h8 (by simp)⟩
  ·exact⟨fun _=>hv,fun h8=>absurd h8 (by simp),fun _ h8=>absurd h8 (by simp),fun h8=>absurd h8 (by simp),fun h8=>absurd h8 (by simp),fun _ h8=>absurd h8 (by simp)⟩
 rw[if_neg h2]
 by_cases h3:c.ph=3
 ·rw[if_pos h3]
  have hv:=h.p3 h3
  have hf:=h.f2 om_ om_
  simp only
  unfold wpD wpC
  cases hq:nextW (scrubF c.e c.fd) (c.fd.drop c.nx.toNat) with
  |none=>
   refine⟨fun h8=>absurd h8 (by simp),fun h8=>absurd h8 (by simp),fun _ _=>hf,fun h8=>absurd h8 (by simp),fun _=>?_,fun h8=>absurd h8 (by simp)⟩
   show v.D.map fenB=_
   rw[hv,take_all hq];simp[wl]
  |some y=>
   refine⟨fun h8=>absurd h8 (by simp only;omega),fun h8=>absurd h8 (by simp only;omega),fun _ _=>hf,fun _=>?_,fun h8=>absurd h8 (by simp only;omega),fun h8=>absurd h8 (by simp only;omega)⟩
   show(wipeV v y.2).D=_
   rw[wipeV_D,hv]
   simp only
   rw[take_more hnx hq,wl_snoc]
 rw[if_neg h3]
 by_cases h4:c.ph=4
 ·rw[if_pos h4]
  have hv:=h.p4 h4
  have hf:=h.f2 om_ om_
  simp only
  unfold wpD wpC
  cases hq:nextW (antiF c.e) (c.fd.drop c.nx.toNat) with
  |none=>
   refine⟨fun h8=>absurd h8 (by simp),fun h8=>absurd h8 (by simp),fun _ _=>hf,fun h8=>absurd h8 (by simp),fun h8=>absurd h8 (by simp),fun _ _=>?_⟩
   show v.D.map fenB=_
   rw[hv,take_all hq]
  |some y=>
   refine⟨fun h8=>absurd h8 (by simp only;omega),fun h8=>absurd h8 (by simp only;omega),fun _ _=>hf,fun h8=>absurd h8 (by simp only;omega),fun _=>?_,fun h8=>absurd h8 (by simp only;omega)⟩
   show(wipeV v y.2).D=_
   rw[wipeV_D,hv]
   simp only
   rw[take_more hnx hq,wl_snoc]
 rw[if_neg h4]
 by_cases h5:c.ph=5
 ·rw[if_pos h5]
  exact⟨fun h8=>absurd h8 (by simp),fun h8=>absurd h8 (by simp),fun _ _=>h.f2 om_ om_,fun h8=>absurd h8 (by simp),fun h8=>absurd h8 (by simp),fun _ _=>h.p5 om_ om_⟩
 rw[if_neg h5]
 exact h
end
section
attribute [local irreducible] V.CW V.LW V.QW V.RW V.PQ V.Val V.Eff V.Qcall
open V (str byC ownV ownG ownS ownOk)
theorem look_line (D:List Ce)(line c kd:Int):(lookF D line c kd).line=line:=by
 unfold lookF
 split
 ·split<;>rfl
 ·rfl
theorem dec_may {l:List UInt8}{b:Blk}(h:decF l=some b):mayF b=true:=by
 unfold decF at h
 split at h
 ·cases h
 ·split at h
  ·rename_i hh
   simp only[Option.some.injEq] at h
   rw[← h];exact hh.2.2.1
  ·cases h
theorem look_span (D:List Ce)(line:Int){c kd:Int}(h:spanF c≠0):spanF (lookF D line c kd).b.cls≠0:=by
 unfold lookF
 split
 ·split
  ·rename_i b hb;exact may_span (dec_may hb)
  ·exact h
 ·exact h
theorem scN_line {D:List Ce}{nx:Int}{f:Fnd}(h:scN D nx=some f):f.line=2+nx:=by
 unfold scN at h
 split at h
 ·cases h
 ·split at h
  ·cases h
  ·simp only[Option.some.injEq] at h
   rw[← h];exact look_line _ _ _ _
theorem scN_span {D:List Ce}{nx:Int}{f:Fnd}(h:scN D nx=some f):spanF f.b.cls≠0:=by
 unfold scN at h
 split at h
 ·cases h
 ·rename_i c kd hh
  split at h
  ·cases h
  ·simp only[Option.some.injEq] at h
   rw[← h];exact look_span _ _ (head_some hh).2.1
theorem fds_mem {D:List Ce}{m:Int}{f:Fnd}:f∈fds D m↔∃i:Nat,i<m.toNat∧scN D (i:Nat)=some f:=by
 unfold fds
 rw[List.mem_filterMap]
 simp only[List.mem_range]
end
section
attribute [local irreducible] V.CW V.LW V.QW V.RW V.PQ V.Val V.Eff V.Qcall
open V (str byC ownV ownG ownS ownOk)
theorem phase_g (rb db:Nat)(r:Rvl)(w:World)(hB:w.heap[rb]? =some (.cells (rvC db r).toArray 90 (0,0))):Calls Tryz.prog 21 [.pointer (some ⟨rb,0,none⟩)].toArray w fun e w'=>e= .returned (.int .i64 r.ph)∧Below w.heap.size w w':=by
 refine Cb_ Tryz.func21 rfl Tryz.ntmps21<|pA_ 20 ?_
 refine Lv (Val.loadO rfl Tryz.isAgg3 (V.lt_of_some hB) (by simp[ids]) (V.cell_of_block hB rfl))<|pA_ 5 ?_
 exact fb_
theorem epoch_g (rb db:Nat)(r:Rvl)(w:World)(hB:w.heap[rb]? =some (.cells (rvC db r).toArray 90 (0,0))):Calls Tryz.prog 45 [.pointer (some ⟨rb,0,none⟩)].toArray w fun e w'=>e= .returned (.int .u64 r.e)∧Below w.heap.size w w':=by
 refine Cb_ Tryz.func45 rfl Tryz.ntmps45<|pA_ 20 ?_
 refine Lv (Val.loadO rfl Tryz.isAgg22 (V.lt_of_some hB) (by simp[ids]) (V.cell_of_block hB rfl))<|pA_ 5 ?_
 exact fb_
def runN (v:Dev)(c:Cor):Nat→Dev×Cor
 |0=>(v,c)
 |k+1=>((stp (runN v c k).1 (runN v c k).2).1,(stp (runN v c k).1 (runN v c k).2).2.1)
def cor0:Cor:=⟨0,0,0,[],[]⟩
theorem inv0 (v:Dev)(h:0<v.D.length∧v.D.length≤1000):Inv v.D.length v cor0:=⟨rfl,h,by decide,fun h8=>absurd h8 (by decide),by decide,fun _=>rfl,fun h8=>absurd h8 (by decide),by decide,fun f hf=>(by cases hf),fun h8=>absurd h8 (by decide),fun h8=>absurd h8 (by decide),fun h8=>absurd h8 (by decide)⟩
theorem cln0 (v:Dev):Cln v.D v cor0:=⟨fun _=>rfl,fun h8=>absurd h8 (by decide),fun h8=>absurd h8 (by decide),fun h8=>absurd h8 (by decide),fun h8=>absurd h8 (by decide),fun h8=>absurd h8 (by decide)⟩
theorem rvx0 (th n:Nat):RvX th n (rv0 (th:Nat)) none:=⟨rfl,⟨rfl,rfl⟩,⟨rfl,rfl⟩,fun _=>⟨rfl,rfl⟩,rfl,fun y h=>by cases h⟩
theorem runN_inv {v:Dev}(h:0<v.D.length∧v.D.length≤1000):∀k,Inv v.D.length (runN v cor0 k).1 (runN v cor0 k).2∧Cln v.D (runN v cor0 k).1 (runN v cor0 k).2
 |0=>⟨inv0 v h,cln0 v⟩
 |k+1=>by
  obtain⟨h1,h2⟩:=runN_inv h k
  exact⟨h1.step,h2.step h1 rfl⟩
end
section
attribute [local irreducible] V.CW V.LW V.QW V.RW V.PQ V.Val V.Eff V.Qcall
open V (str byC ownV ownG ownS ownOk)
theorem arena2_g (rb db:Nat)(r:Rvl)(w:World)(hB:w.heap[rb]? =some (.cells (rvC db r).toArray 90 (0,0))):Calls Tryz.prog 20 [.pointer (some ⟨rb,0,none⟩)].toArray w fun e w'=>e= .returned (.tuple #[if r.ph=6 then r.st else .pointer none,.bool (decide (r.ph=6))])∧Below w.heap.size w w':=by
 refine Cb_ Tryz.func20 rfl Tryz.ntmps20<|pA_ 15 ?_
 refine Lv (Val.loadO rfl Tryz.isAgg3 (V.lt_of_some hB) (by simp[ids]) (V.cell_of_block hB rfl))<|pA_ 4 ?_
 refine Cd_ rfl (fun h12=>?_) fun h12=>?_
 ·have h12:¬r.ph=6:=h12
  refine pA_ 9 ?_
  rw[if_neg h12,decide_eq_false h12]
  exact fb_
 ·have h12:r.ph=6:=by simpa using h12
  refine pA_ 7 ?_
  refine Lv (Val.loadO rfl Tryz.isAgg60 (V.lt_of_some hB) (by simp[ids]) (V.cell_of_block hB rfl))<|pA_ 6 ?_
  rw[if_pos h12,decide_eq_true h12]
  exact fb_
end
section
attribute [local irreducible] V.CW V.LW V.QW V.RW V.PQ V.Val V.Eff V.Qcall
open V (str byC ownV ownG ownS ownOk)
instance:Cal Tryz.prog 62:=⟨Tryz.call62⟩
instance:Inhabited Fnd:=⟨fd0⟩
theorem fd_oneF (l:List Fnd):(l.flatMap fdC).all (·.oneCell')=true:=by
 induction l with
 |nil=>rfl
 |cons f r ih=>rw[List.flatMap_cons,List.all_append,ih];rfl
theorem cloneFd_c (l:List Fnd)(p:Option Addr)(c:Nat)(hl:l.length≤1000)(w:World)(h:V.slAt w p 9 fdC l):Calls Tryz.prog 62 [.slice p l.length c].toArray w fun e w'=>∃o:V.OwnO,ownOk 9 l.length (l.flatMap fdC) o∧e= .returned (ownV l.length o)∧Hp ⟨w,[]⟩ [ownG 97 (l.flatMap fdC) o] w':=by
 refine Cb_ Tryz.func62 rfl Tryz.ntmps62<|pA_ 9 ?_
 refine Lv (Val.eqSlNil rfl rfl Tryz.underlying40)<|Nl<|Ps ?_
 refine Cd_ rfl (fun h4=>?_) fun h4=>?_
 ·have hpn:p=none:=by cases p with|none=>rfl|some q=>simp at h4
  obtain rfl:l=[]:=by
   rcases h with h|⟨b,o,h,_⟩
   ·exact h
   ·rw[hpn] at h;cases h
  refine pA_ 8 ?_
  intro w' hw;exact⟨none,⟨rfl,rfl⟩,rfl,hw.perm (.refl _)⟩
 ·refine pA_ 4 ?_
  refine Le (Eff.buildSlice0 Tryz.underlying40 Tryz.sizeOf97) fun b5 _=>Lv Mv<|Le (Eff.appendAny (l.flatMap fdC) (sz:=9) (bytes:=88) (z:= .agg #[.int .i64 0,.bool false,.int .i64 0,.int .i64 0,.int .u64 0,.int .u64 0,.int .u64 0,.string ⟨#[]⟩,.string ⟨#[]⟩]) (xs:=[]) (m0:=0) (o:=some (b5,[],0)) (m:=l.length) (pk:=[ownG 97 [] (some (b5,[],0))]) rfl rfl Tryz.underlying40 kr_ rfl om_ pk_ (by simp) ⟨rfl,rfl⟩ (V.flatMap_len fdC_len _) (fun hm0=>by obtain⟨b8,o8,h8,h9⟩:=sl_range (F:=[]) fdC_len h hm0 (by simp);exact⟨b8,o8,h8,fun w1 hw1=>h9 w1 hw1⟩) (fd_oneF l) om_ om_) fun o2 ho2=>?_
  have h2:ownOk 9 l.length (l.flatMap fdC) o2:=by simpa using ho2
  rw[List.nil_append,Nat.zero_add]
  refine pA_ 5 ?_
  exact fi_ o2 h2
theorem kept_g (rb db:Nat)(r:Rvl)(hk:ownOk 9 r.kp.length (r.kp.flatMap fdC) r.ko)(hl:r.kp.length≤1000):Mo Tryz.prog 22 [.pointer (some ⟨rb,0,none⟩)] ([rvO rb db r]::[ownG 97 (r.kp.flatMap fdC) r.ko]) (fun o:V.OwnO=>ownOk 9 r.kp.length (r.kp.flatMap fdC) o) (fun o=>ownV r.kp.length o) (fun o=>[ownG 97 (r.kp.flatMap fdC) o,[rvO rb db r],ownG 97 (r.kp.flatMap fdC) r.ko]):=by
 intro w hs
 obtain⟨pd,cd,hvd,hsd⟩:=own_slF r.kp r.ko hk
 refine Ca_ Tryz.func22 rfl Tryz.ntmps22 hs<|pA_ 20 ?_
 refine Lv (Ld (v:=ownV r.kp.length r.ko))<|LW.re 8 (.slice pd r.kp.length cd) rfl hvd<|Le (CM [] fun w hw hs=>cloneFd_c r.kp pd cd hl w (hsd hw pk_)) fun o ho=>pA_ 5 ?_
 exact fi_ o ho
end
section
attribute [local irreducible] V.CW V.LW V.QW V.RW V.PQ V.Val V.Eff V.Qcall
open V (str byC ownV ownG ownS ownOk)
theorem same_g (a b:List UInt8)(p q:Option Addr)(c d:Nat)(w:World)(ha:V.slAt w p 1 byE a)(hb:V.slAt w q 1 byE b):Calls Tryz.prog 54 [.slice p a.length c,.slice q b.length d].toArray w fun e w'=>e= .returned (.bool (decide (a=b)))∧Below w.heap.size w w':=by
 refine Cb_ Tryz.func54 rfl Tryz.ntmps54<|pA_ 8 ?_
 refine Lv (Val.convSl (l:=a) rfl Tryz.underlying54 Tryz.underlying5 Tryz.underlying9 (fun w hw=>hw.slAt ha (by simp[ids])))<|Lv Mv<|Lv (Val.convSl (l:=b) rfl Tryz.underlying54 Tryz.underlying5 Tryz.underlying9 (fun w hw=>hw.slAt hb (by simp[ids])))<|pA_ 6 ?_
 intro w' hw;exact⟨by first|rfl|(congr 2),hw.below⟩
end
section
attribute [local irreducible] V.CW V.LW V.QW V.RW V.PQ V.Val V.Eff V.Qcall
open V (str byC ownV ownG ownS ownOk)
instance:Und Tryz.prog 23 (dOf Tryz.underlying23):=⟨Tryz.underlying23⟩
instance:Und Tryz.prog 56 (dOf Tryz.underlying56):=⟨Tryz.underlying56⟩
instance:Siz Tryz.prog 56 (kOf Tryz.sizeOf56):=⟨Tryz.sizeOf56⟩
structure Laid where
 line:Int
 b:Blk
 rp:Option Addr
 raw:List UInt8
 rc:Nat
 at_:Int
def ldC (x:Laid):List Value:=[.int .i64 x.line,.int .i64 x.b.cls,.int .i64 x.b.kind,.int .u64 x.b.id,.int .u64 x.b.ver,.int .u64 x.b.ep,str x.b.key,str x.b.val,.slice x.rp x.raw.length x.rc,.int .i64 x.at_]
def LdR (w:World)(p:Option Addr)(l:List Laid):Prop:=V.slAt w p 10 ldC l∧∀x∈l,V.slAt w x.rp 1 byE x.raw
def largeF (l:List Laid):Bool:=decide (30<l.length)||l.any fun x=>decide (500<x.b.key.length)||decide (500<x.b.val.length)||decide (64<x.raw.length)
theorem any_at {l:List Laid}{q:Laid→Bool}{k:Nat}{x:Laid}(hx:l[k]? =some x)(h:q x=true):l.any q=true:=List.any_eq_true.2 ⟨x,List.mem_of_getElem? hx,h⟩
theorem any_up {l:List Laid}{q:Laid→Bool}{k:Nat}{x:Laid}(h:(l.take k).any q=false)(hx:l[k]? =some x)(hq:q x=false):(l.take (k+1)).any q=false:=by
 rw[List.take_add_one,hx,Option.toList_some,List.any_append,h];simp[hq]
abbrev ldB (x:Laid):Bool:=decide (500<x.b.key.length)||decide (500<x.b.val.length)||decide (64<x.raw.length)
theorem large_g (l:List Laid)(p:Option Addr)(c:Nat)(w:World)(hp:LdR w p l):Calls Tryz.prog 4 [.slice p l.length c].toArray w fun e w'=>e= .returned (.bool (largeF l))∧Below w.heap.size w w':=by
 refine Cb_ Tryz.func4 rfl Tryz.ntmps4<|pA_ 13 ?_
 refine Cd_ rfl (fun h6=>?_) fun h6=>?_
 ·refine pA_ 8 ?_
  intro w' hw;exact⟨by congr 1;unfold largeF;rw[decide_eq_true om_,Bool.true_or],hw.below⟩
 ·refine pA_ 9 ?_
  refine loopA (γ:=Nat) (fun k=>[(0,.slice p l.length c),(3,.int .i64 (k:Nat))]) (fun _=>[]) (fun k=>k≤l.length∧l.length≤30∧(l.take k).any ldB=false) (fun k=>l.length-k) (0) ⟨Nat.zero_le _,by omega,by simp⟩ fun k=>?_
  rintro⟨hk1,hk2,hk3⟩
  refine pA_ 9 ?_
  refine Cd_ rfl (fun h10=>?_) fun h10=>?_
  ·have hk9:k<l.length:=by omega
   obtain⟨bb1,o1,y,rfl,hb1,hx1,hr1⟩:=V.slAt_at hp.1 rfl (k:=k) hk9
   refine pA_ 11 ?_
   refine Lv (Val.loadO rfl Tryz.isAgg9 hb1 (by simp[ids]) (hr1 k y hx1 6 _ rfl))<|pA_ 3 ?_
   refine LW.split (d:=21) rfl (fun h21=>?_) (fun h21=>?_)
   ·replace h21:=bT h21
    refine pA_ 33 ?_
    have h8:l.any ldB=true:=any_at hx1 (by simp only[ldB];simp;omega)
    intro w' hw;exact⟨by congr 1;unfold largeF;rw[h8,Bool.or_true],hw.below⟩
   ·replace h21:=bF h21
    refine pA_ 5 ?_
    refine Lv (Val.loadO rfl Tryz.isAgg9 hb1 (by simp[ids]) (hr1 k y hx1 7 _ rfl))<|pA_ 4 ?_
    refine LW.split (d:=31) rfl (fun h31=>?_) (fun h31=>?_)
    ·replace h31:=bT h31
     refine pA_ 23 ?_
     have h8:l.any ldB=true:=any_at hx1 (by simp only[ldB];simp;omega)
     intro w' hw;exact⟨by congr 1;unfold largeF;rw[h8,Bool.or_true],hw.below⟩
    ·replace h31:=bF h31
     refine pA_ 4 ?_
     refine Lv (Val.loadO rfl Tryz.isAgg54 hb1 (by simp[ids]) (hr1 k y hx1 8 _ rfl))<|pA_ 5 ?_
     refine Cd_ rfl (fun h39=>?_) fun h39=>?_
     ·refine pA_ 12 ?_
      have h8:l.any ldB=true:=any_at hx1 (by simp only[ldB];simp;omega)
      intro w' hw;exact⟨by congr 1;unfold largeF;rw[h8,Bool.or_true],hw.below⟩
     ·refine pA_ 8 ?_
      exact roundA (k+1) ⟨by omega,hk2,any_up hk3 hx1 (by simp only[ldB];simp;omega)⟩ om_
  ·refine pA_ 12 ?_
   have h8:l.any ldB=false:=by rw[List.take_of_length_le om_] at hk3;exact hk3
   intro w' hw;exact⟨by congr 1;unfold largeF;rw[h8,decide_eq_false om_,Bool.or_false],hw.below⟩
end
section
attribute [local irreducible] V.CW V.LW V.QW V.RW V.PQ V.Val V.Eff V.Qcall
open V (str byC ownV ownG ownS ownOk)
def layN (v:Dev)(line:Int)(bs:List UInt8):Nat→Dev
 |0=>v
 |k+1=>(layN v line bs k).store (IntKind.i64.wrap (line+(k:Nat))) 0 ((bs.drop (64*k)).take 64)
def layV (v:Dev)(x:Laid):Dev:=if mayF x.b=true then layN v x.line (encL x.b) (spanF x.b.cls) else v.store x.line x.at_ x.raw
def backN (v:Dev):Nat→Dev
 |0=>v
 |k+1=>(backN v k).back (k:Nat)
def devF (n:Nat)(clk:Int)(l:List Laid):Dev:=backN (l.foldl layV ((fmtV ⟨List.replicate n ce0,ct0⟩).store 1 0 (clockL clk))) n
theorem layN_len (v:Dev)(line:Int)(bs:List UInt8):∀k,(layN v line bs k).D.length=v.D.length
 |0=>rfl
 |k+1=>by rw[layN,Dev.store_len,layN_len v line bs k]
theorem layV_len (v:Dev)(x:Laid):(layV v x).D.length=v.D.length:=by
 unfold layV
 split
 ·exact layN_len _ _ _ _
 ·exact Dev.store_len _ _ _ _
theorem lay_len:∀(l:List Laid) (v:Dev),(l.foldl layV v).D.length=v.D.length
 |[],_=>rfl
 |x::r,v=>(lay_len r (layV v x)).trans (layV_len v x)
theorem backN_len (v:Dev):∀k,(backN v k).D.length=v.D.length
 |0=>rfl
 |k+1=>by rw[backN,Dev.back_len,backN_len v k]
theorem devF_len (n:Nat)(clk:Int)(l:List Laid):(devF n clk l).D.length=n:=by
 unfold devF
 rw[backN_len,lay_len,Dev.store_len,fmtV_len,List.length_replicate]
end
section
attribute [local irreducible] V.CW V.LW V.QW V.RW V.PQ V.Val V.Eff V.Qcall
open V (str byC ownV ownG ownS ownOk)
def layB (v:Int)(i:Nat):UInt8:=UInt8.ofNat (v.toNat/256^i%256)
def layF (n:Nat)(v:Int):List UInt8:=(List.range n).map (layB v)
theorem layF_len (n:Nat)(v:Int):(layF n v).length=n:=by unfold layF;simp
theorem layF_succ (n:Nat)(v:Int):layF (n+1) v=layF n v++[layB v n]:=by unfold layF;rw[List.range_succ,List.map_append];rfl
theorem shB_lay {v:Int}(h:0≤v∧v<18446744073709551616){i:Nat}(hi:i<8):shB v i=layB v i:=by
 obtain⟨n,rfl⟩:∃n:Nat,v=n:=⟨v.toNat,by omega⟩
 unfold shB layB
 congr 1
 rw[IntKind.wrap_u8,Int.toNat_natCast]
 have hb:IntKind.u64.bits=64:=rfl
 have key:∀m:Nat,(2:Int)^m=((2^m:Nat):Int):=fun m=>by simp
 have e:(min ((8:Int)*(i:Nat)).toNat IntKind.u64.bits)=8*i:=by rw[hb];omega
 rw[e,key,Int.fdiv_eq_ediv_of_nonneg _ (Int.natCast_nonneg _),show(2:Nat)^(8*i)=256^i by rw[Nat.pow_mul]]
 rw[← Int.natCast_ediv]
 omega
theorem putN_lay (l:List UInt8)(at_:Nat){v:Int}(h:0≤v∧v<18446744073709551616):∀{n:Nat},n≤8→at_+n≤l.length→putN l at_ v n=l.take at_++layF n v++l.drop (at_+n)
 |0,_,h2=>by simp[putN,layF]
 |n+1,h1,h2=>by
  have ih:=putN_lay l at_ h (n:=n) om_ om_
  have hl:(l.take at_++layF n v).length=at_+n:=by rw[List.length_append,List.length_take,layF_len];omega
  rw[putN,ih,List.set_append_right _ _ om_,hl,Nat.sub_self,shB_lay h om_,List.drop_eq_getElem_cons (show at_+n<l.length by omega),List.set_cons_zero,layF_succ]
  simp[Nat.add_assoc]
def nmF (l:List UInt8):Nat:=l.foldr (fun b v=>b.toNat+256*v) 0
theorem nmF_lt:∀l:List UInt8,nmF l<256^l.length
 |[]=>by simp[nmF]
 |b::l=>by
  have ih:=nmF_lt l
  have hb:=b.toNat_lt
  show b.toNat+256*nmF l<256^(l.length+1)
  rw[Nat.pow_succ]
  omega
theorem nmF_snoc (b:UInt8):∀l:List UInt8,nmF (l++[b])=nmF l+256^l.length*b.toNat
 |[]=>by simp[nmF]
 |a::l=>by
  have ih:=nmF_snoc b l
  show a.toNat+256*nmF (l++[b])=a.toNat+256*nmF l+256^(l.length+1)*b.toNat
  rw[ih,Nat.pow_succ,Nat.mul_add,Nat.mul_comm (256^l.length) 256,Nat.mul_assoc]
  omega
theorem getStep_num {v:Nat}{b:UInt8}{i:Nat}(hi:i<8)(hv:v<256^i):getStep (v:Nat) b i=((v+256^i*b.toNat:Nat):Int):=by
 have hb:=b.toNat_lt
 have hp:(256:Nat)^i=2^(8*i):=by rw[Nat.pow_mul]
 have hle:(256:Nat)^i*256≤18446744073709551616:=by
  rw[← Nat.pow_succ]
  exact Nat.le_trans (Nat.pow_le_pow_right om_ (show i+1≤8 by omega)) (by decide)
 have hm:256^i*b.toNat+256^i≤18446744073709551616:=by
  have:256^i*(b.toNat+1)≤256^i*256:=Nat.mul_le_mul_left _ om_
  rw[Nat.mul_add,Nat.mul_one] at this
  omega
 have e:(min ((8:Int)*(i:Nat)).toNat IntKind.u64.bits)=8*i:=by rw[show IntKind.u64.bits=64 from rfl];omega
 unfold getStep
 rw[e,show(2:Int)^(8*i)=((2^(8*i):Nat):Int) by simp,← hp,IntWalk.u64_in ((b.toNat:Nat):Int) om_,← Int.natCast_mul,IntWalk.u64_in ((b.toNat*256^i:Nat):Int) (by rw[Nat.mul_comm];omega)]
 have h1:(BitVec.ofInt IntKind.u64.bits ((v:Nat):Int)).toNat=v:=by
  rw[show IntKind.u64.bits=64 from rfl,BitVec.ofInt_natCast,BitVec.toNat_ofNat]
  exact Nat.mod_eq_of_lt om_
 have h2:(BitVec.ofInt IntKind.u64.bits ((b.toNat*256^i:Nat):Int)).toNat=b.toNat*256^i:=by
  rw[show IntKind.u64.bits=64 from rfl,BitVec.ofInt_natCast,BitVec.toNat_ofNat]
  exact Nat.mod_eq_of_lt (by rw[Nat.mul_comm];omega)
 rw[BitVec.toNat_or,h1,h2]
 have h3:v|||b.toNat*256^i=v+256^i*b.toNat:=by
  have h4:=Nat.shiftLeft_add_eq_or_of_lt (b:=v) (i:=8*i) (by rw[← hp];exact hv) b.toNat
  rw[Nat.shiftLeft_eq,← hp] at h4
  rw[Nat.or_comm,← h4,Nat.mul_comm];omega
 rw[h3,IntWalk.u64_in _ om_]
theorem getN_num (l:List UInt8)(at_:Nat):∀{n:Nat},n≤8→at_+n≤l.length→getN l at_ n=((nmF ((l.drop at_).take n):Nat):Int)
 |0,_,_=>by simp[getN,nmF]
 |n+1,h1,h2=>by
  have ih:=getN_num l at_ (n:=n) om_ om_
  have hx:(l.drop at_)[n]? =some (l[at_+n]'om_):=by rw[List.getElem?_drop];exact List.getElem?_eq_getElem _
  have hd:l.getD (at_+n) 0=l[at_+n]'om_:=by rw[List.getD_eq_getElem?_getD,List.getElem?_eq_getElem om_];rfl
  have hl:((l.drop at_).take n).length=n:=by rw[List.length_take,List.length_drop];omega
  have hlt:=nmF_lt ((l.drop at_).take n)
  rw[hl] at hlt
  rw[getN,ih,hd,getStep_num om_ hlt,List.take_add_one,hx,Option.toList_some,nmF_snoc,hl]
theorem xorI_rng (a b:Int):0≤xorI a b∧xorI a b<4294967296:=by
 unfold xorI
 rw[IntKind.wrap_u32]
 omega
theorem xorI_twice {a:Int}(h:0≤a∧a<4294967296)(m:Int):xorI (xorI a m) m=a:=by
 obtain⟨n,rfl⟩:∃n:Nat,a=n:=⟨a.toNat,by omega⟩
 unfold xorI
 rw[IntKind.wrap_u32,IntKind.wrap_u32]
 have hb:IntKind.u32.bits=32:=rfl
 have e:((((BitVec.ofInt IntKind.u32.bits ((n:Nat):Int)^^^BitVec.ofInt IntKind.u32.bits m).toNat:Nat):Int)%4294967296)=(((BitVec.ofInt IntKind.u32.bits ((n:Nat):Int)^^^BitVec.ofInt IntKind.u32.bits m).toNat:Nat):Int):=by
  have h8:=(BitVec.ofInt IntKind.u32.bits ((n:Nat):Int)^^^BitVec.ofInt IntKind.u32.bits m).isLt
  have h9:(2:Nat)^IntKind.u32.bits=4294967296:=by decide
  rw[h9] at h8
  omega
 rw[e,BitVec.ofInt_natCast,BitVec.ofNat_toNat,BitVec.setWidth_eq,BitVec.xor_assoc,BitVec.xor_self,BitVec.xor_zero,BitVec.ofInt_natCast,BitVec.toNat_ofNat,show(2:Nat)^IntKind.u32.bits=4294967296 by decide]
 omega
theorem stepOne_rng {c:Int}(h:0≤c∧c<4294967296):0≤stepOne c∧stepOne c<4294967296:=by
 unfold stepOne
 split
 ·rw[IntKind.wrap_u32];omega
 ·exact xorI_rng _ _
theorem stepK_rng:∀{k:Nat} {c:Int},0≤c∧c<4294967296→0≤stepK k c∧stepK k c<4294967296
 |0,c,h=>h
 |k+1,c,h=>stepOne_rng (stepK_rng h)
theorem stepB_rng (c:Int)(b:UInt8):0≤stepB c b∧stepB c b<4294967296:=stepK_rng (xorI_rng _ _)
theorem fold_rng:∀(l:List UInt8) {c:Int},0≤c∧c<4294967296→0≤l.foldl stepB c∧l.foldl stepB c<4294967296
 |[],c,h=>h
 |b::l,c,h=>fold_rng l (stepB_rng c b)
theorem addF_sum (a b:List UInt8):addF (sumF a) b=sumF (a++b):=by
 unfold addF sumF
 rw[xorI_twice (fold_rng a (xorI_rng _ _)),List.foldl_append]
theorem sumF_rng (l:List UInt8):0≤sumF l∧sumF l<4294967296:=xorI_rng _ _
def wholeF (b:List UInt8):List UInt8:=b++layF 4 (sumF b)++List.replicate 51 0
theorem seal_whole {b:List UInt8}(h:b.length=9):sealL b=wholeF b:=by
 have hr:=sumF_rng b
 unfold sealL wholeF
 rw[IntWalk.u64_in _ om_,putN_lay _ _ ⟨by omega,by omega⟩ om_ (by rw[padB_len om_];omega)]
 unfold padB
 rw[List.take_append_of_le_length om_,List.take_of_length_le om_,List.drop_append,List.drop_eq_nil_iff.2 om_,h,List.drop_replicate]
 simp
theorem clock_whole {v:Int}(h:0≤v∧v<18446744073709551616):clockL v=wholeF (3::layF 8 v):=by
 unfold clockL
 rw[putN_lay _ _ h om_ (by decide)]
 have e:clkBase.take 1++layF 8 v++clkBase.drop (1+8)=3::layF 8 v:=by
  rw[show clkBase.take 1=[3] from rfl,show clkBase.drop (1+8)=[] from rfl];simp
 rw[e]
 exact seal_whole (by rw[List.length_cons,layF_len])
theorem super_whole {x:Int}(h:0≤x∧x≤258):superL x=wholeF ([4,70,85,83,69]++layF 4 x):=by
 unfold superL
 rw[IntWalk.u64_in _ om_,putN_lay _ _ ⟨by omega,by omega⟩ om_ (by decide)]
 have e:supBase.take 5++layF 4 x++supBase.drop (5+4)=[4,70,85,83,69]++layF 4 x:=by
  rw[show supBase.take 5=[4,70,85,83,69] from rfl,show supBase.drop (5+4)=[] from rfl];simp
 rw[e]
 exact seal_whole (by rw[List.length_append,layF_len];rfl)
def hd32 (x:Blk):List UInt8:=[1,byteF x.cls,byteF x.kind,byteF x.key.length]++layF 2 (x.val.length:Nat)++[0,0]++layF 8 x.id++layF 8 x.ver++layF 8 x.ep
theorem hd32_len (x:Blk):(hd32 x).length=32:=by unfold hd32;simp[layF_len]
def numOk (x:Blk):Prop:=(0≤x.id∧x.id<18446744073709551616)∧(0≤x.ver∧x.ver<18446744073709551616)∧(0≤x.ep∧x.ep<18446744073709551616)∧x.val.length≤60000
theorem putL_of {l:List UInt8}{a n:Nat}{v:Int}(hf:fitB v n=true)(h:0≤v∧v<18446744073709551616)(hn:n≤8)(hl:a+n≤l.length):putL l a n v=l.take a++layF n v++l.drop (a+n):=by
 unfold putL
 rw[if_pos hf,putN_lay l a h hn hl]
theorem fit8 (v:Int):fitB v 8=true:=by unfold fitB;simp
theorem fit2 {v:Int}(h:0≤v∧v<65536):fitB v 2=true:=by
 unfold fitB
 rw[show(2:Int)^(min ((8:Int)*((2:Nat):Int)).toNat IntKind.u64.bits)=65536 by decide,Int.fdiv_eq_ediv_of_nonneg _ om_]
 have:v/65536=0:=by omega
 rw[this];simp
theorem fit4 {v:Int}(h:0≤v∧v<4294967296):fitB v 4=true:=by
 unfold fitB
 rw[show(2:Int)^(min ((8:Int)*((4:Nat):Int)).toNat IntKind.u64.bits)=4294967296 by decide,Int.fdiv_eq_ediv_of_nonneg _ om_]
 have:v/4294967296=0:=by omega
 rw[this];simp
theorem splice_at {A B C:List UInt8}{a n:Nat}{L:List UInt8}(ha:A.length=a)(hb:B.length=n)(hL:L.length=n):(A++(B++C)).take a++L++(A++(B++C)).drop (a+n)=A++(L++C):=by
 subst ha
 rw[List.take_append_of_le_length om_,List.take_of_length_le om_,List.drop_append,List.drop_eq_nil_iff.2 om_,Nat.add_sub_cancel_left,List.drop_append,List.drop_eq_nil_iff.2 om_,hb,Nat.sub_self]
 simp
theorem headD_eq {x:Blk}(h:numOk x):headD x=hd32 x++List.replicate 32 0:=by
 obtain⟨h1,h2,h3,h4⟩:=h
 have e0:headPre x=[1,byteF x.cls,byteF x.kind,byteF x.key.length]++(List.replicate 2 0++List.replicate 58 0):=by
  unfold headPre
  rfl
 have e1:headA x=[1,byteF x.cls,byteF x.kind,byteF x.key.length]++(layF 2 (x.val.length:Nat)++List.replicate 58 0):=by
  unfold headA
  rw[IntWalk.u64_in _ om_,putL_of (fit2 om_) om_ om_ (by rw[headPre_len];omega),e0]
  exact splice_at rfl (by simp) (layF_len _ _)
 have e2:headB x=([1,byteF x.cls,byteF x.kind,byteF x.key.length]++layF 2 (x.val.length:Nat)++[0,0])++(layF 8 x.id++List.replicate 48 0):=by
  unfold headB
  rw[putL_of (fit8 _) h1 om_ (by rw[headA_len];omega),e1]
  have e:[1,byteF x.cls,byteF x.kind,byteF x.key.length]++(layF 2 (x.val.length:Nat)++List.replicate 58 0)=([1,byteF x.cls,byteF x.kind,byteF x.key.length]++layF 2 (x.val.length:Nat)++[0,0])++(List.replicate 8 0++List.replicate 48 0):=by
   simp only[List.append_assoc];rfl
  rw[e]
  exact splice_at (by simp[layF_len]) (by simp) (layF_len _ _)
 have e3:headC x=([1,byteF x.cls,byteF x.kind,byteF x.key.length]++layF 2 (x.val.length:Nat)++[0,0]++layF 8 x.id)++(layF 8 x.ver++List.replicate 40 0):=by
  unfold headC
  rw[putL_of (fit8 _) h2 om_ (by rw[headB_len];omega),e2]
  have e:([1,byteF x.cls,byteF x.kind,byteF x.key.length]++layF 2 (x.val.length:Nat)++[0,0])++(layF 8 x.id++List.replicate 48 0)=([1,byteF x.cls,byteF x.kind,byteF x.key.length]++layF 2 (x.val.length:Nat)++[0,0]++layF 8 x.id)++(List.replicate 8 0++List.replicate 40 0):=by
   simp only[List.append_assoc];rfl
  rw[e]
  exact splice_at (by simp[layF_len]) (by simp) (layF_len _ _)
 unfold headD
 rw[putL_of (fit8 _) h3 om_ (by rw[headC_len];omega),e3]
 have e:([1,byteF x.cls,byteF x.kind,byteF x.key.length]++layF 2 (x.val.length:Nat)++[0,0]++layF 8 x.id)++(layF 8 x.ver++List.replicate 40 0)=([1,byteF x.cls,byteF x.kind,byteF x.key.length]++layF 2 (x.val.length:Nat)++[0,0]++layF 8 x.id++layF 8 x.ver)++(List.replicate 8 0++List.replicate 32 0):=by
  simp only[List.append_assoc];rfl
 rw[e,splice_at (by simp[layF_len]) (by simp) (layF_len _ _)]
 unfold hd32
 simp only[List.append_assoc]
theorem headL_eq {x:Blk}{dt:List UInt8}(h:numOk x):headL x dt=hd32 x++layF 4 (sumF (hd32 x++dt))++dt.take 28:=by
 have hs:=sumF_rng (hd32 x++dt)
 have e1:(headD x).take 32=hd32 x:=by rw[headD_eq h,List.take_append_of_le_length (by rw[hd32_len];omega),List.take_of_length_le (by rw[hd32_len];omega)]
 have e2:headE x dt=hd32 x++(layF 4 (sumF (hd32 x++dt))++List.replicate 28 0):=by
  unfold headE
  rw[e1,addF_sum,IntWalk.u64_in _ om_,putL_of (fit4 hs) om_ om_ (by rw[headD_len];omega),headD_eq h]
  have e:hd32 x++List.replicate 32 0=hd32 x++(List.replicate 4 0++List.replicate 28 0):=rfl
  rw[e]
  exact splice_at (hd32_len x) (by simp) (layF_len _ _)
 unfold headL
 rw[e2,← List.append_assoc,List.take_append_of_le_length (by rw[List.length_append,hd32_len,layF_len];omega),List.take_of_length_le (by rw[List.length_append,hd32_len,layF_len];omega)]
theorem encL_eq {x:Blk}(h:numOk x):encL x=hd32 x++layF 4 (sumF (hd32 x++dataB x))++(dataB x).take 28++tailL (dataB x) (spanF x.cls-1):=by
 unfold encL
 rw[headL_eq h]
end
section
attribute [local irreducible] V.CW V.LW V.QW V.RW V.PQ V.Val V.Eff V.Qcall
open V (str byC ownV ownG ownS ownOk)
instance:Cal Tryz.prog 18:=⟨Tryz.call18⟩
instance:Cal Tryz.prog 19:=⟨Tryz.call19⟩
instance:Cal Tryz.prog 26:=⟨Tryz.call26⟩
theorem large_no {l:List Laid}(h:largeF l=false):l.length≤30∧∀x∈l,x.b.key.length≤500∧x.b.val.length≤500∧x.raw.length≤64:=by
 unfold largeF at h
 rw[Bool.or_eq_false_iff] at h
 obtain⟨h1,h2⟩:=h
 rw[decide_eq_false_iff_not] at h1
 rw[List.any_eq_false] at h2
 refine⟨by omega,fun x hx=>?_⟩
 have h3:=h2 x hx
 simp only[Bool.or_eq_true,decide_eq_true_eq] at h3
 omega
theorem lo_not {w0 w:World}{sg r:V.Sg}{x:DvR}{v:Dev}{b:Nat}(hw:Hp ⟨w0,[]⟩ sg w)(hp:Pick (vS x v) sg r)(hb:b<w0.heap.size):b∉V.ids (vS x v):=by
 intro hm
 have h1:b∈((vS x v).flatten.map Prod.fst):=hm
 obtain⟨q,hq,rfl⟩:=List.mem_map.1 h1
 rcases(hw.pick hp).lo q hq with h2|h2
 ·simp only at h2;omega
 ·cases h2
theorem sl_at {w:World}{p:Option Addr}{l:List UInt8}(h:V.slAt w p 1 byE l)(h0:0<l.length){b o:Nat}(hb:p=some ⟨b,o,none⟩):b<w.heap.size:=by
 rcases h with h|⟨b2,o2,h2,h3,_⟩
 ·rw[h] at h0;exact absurd h0 (by simp)
 ·rw[hb] at h2
  simp only[Option.some.injEq,Addr.mk.injEq] at h2
  rw[h2.1];exact h3
theorem enc_part {v:Dev}{line:Int}{x:Blk}{k:Nat}(hm:mayF x=true)(hk:k<spanF x.cls):(((encL x).drop (64*k)).take 64).length=64:=by
 rw[List.length_take,List.length_drop,encL_len hm];omega
theorem lay_yes {v:Dev}{x:Laid}(h:mayF x.b=true){k:Nat}(hk:k=spanF x.b.cls):layV v x=layN v x.line (encL x.b) k:=by unfold layV;rw[if_pos h,hk]
theorem lay_no {v:Dev}{x:Laid}(h:¬mayF x.b=true):layV v x=v.store x.line x.at_ x.raw:=by unfold layV;rw[if_neg h]
theorem fold_up {l:List Laid}{v:Dev}{i:Nat}{x:Laid}(h:l[i]? =some x):(l.take (i+1)).foldl layV v=layV ((l.take i).foldl layV v) x:=by rw[List.take_add_one,h,Option.toList_some,List.foldl_append];rfl
theorem store_v (x:DvR)(v:Dev)(line at_:Int)(bs:List UInt8)(p:Option Addr)(cp:Nat)(hl:bs.length≤100000)(w:World)(hs:Sat (vS x v) w)(hp:V.slAt w p 1 byE bs)(hpd:0<bs.length→∀b o,p=some ⟨b,o,none⟩→b∉V.ids (vS x v)):Calls Tryz.prog 23 [.pointer (some ⟨x.db,0,none⟩),.int .i64 line,.int .i64 at_,.slice p bs.length cp].toArray w fun e w'=>∃_u:Unit,True∧e= .returned (.int .i64 (er2 (thB v.D.length line at_ bs.length)))∧Hp ⟨w,V.ids (vS x v)⟩ (vS x (v.store line at_ bs)) w':=
 store_gc x v.D v.k line at_ bs p cp hl w hs hp hpd
theorem back_v (x:DvR)(v:Dev)(line:Int)(w:World)(hs:Sat (vS x v) w):Calls Tryz.prog 26 [.pointer (some ⟨x.db,0,none⟩),.int .i64 line].toArray w fun e w'=>∃_u:Unit,True∧e= .returned (.int .i64 (er2 (inD v.D.length line)))∧Hp ⟨w,V.ids (vS x v)⟩ (vS x (v.back line)) w':=
 back_g x v.D v.k line w hs
theorem store_part (x:DvR)(v:Dev)(line:Int)(b:Blk)(k:Nat)(hm:mayF b=true)(hk:k<spanF b.cls)(be ce:Nat)(hce:(encL b).length≤ce)(w:World)(hs:Sat (vS x (layN v line (encL b) k)) w)(hsl:V.slAt w (some ⟨be,0,none⟩) 1 byE (encL b))(hnd:be∉V.ids (vS x (layN v line (encL b) k))):Calls Tryz.prog 23 [.pointer (some ⟨x.db,0,none⟩),.int .i64 (IntKind.i64.wrap (line+(k:Nat))),.int .i64 0,.slice (some ⟨be,64*k,none⟩) 64 (ce-64*k)].toArray w fun e w'=>∃_u:Unit,True∧e= .returned (.int .i64 (er2 (thB (layN v line (encL b) k).D.length (IntKind.i64.wrap (line+(k:Nat))) 0 64)))∧Hp ⟨w,V.ids (vS x (layN v line (encL b) k))⟩ (vS x (layN v line (encL b) (k+1))) w':=by
 have hel:=encL_len hm
 have hpl:=enc_part (v:=v) (line:=0) hm hk
 have h7:=V.slAt_part hsl (k:=64*k) om_ hce 64
 rw[if_neg om_] at h7
 have h6:V.slAt w (some ⟨be,64*k,none⟩) 1 byE (((encL b).drop (64*k)).take 64):=by simpa[Addr.add_mid] using h7
 have h8:=store_v x (layN v line (encL b) k) (IntKind.i64.wrap (line+(k:Nat))) 0 (((encL b).drop (64*k)).take 64) (some ⟨be,64*k,none⟩) (ce-64*k) (by rw[hpl];omega) w hs h6 (fun _ b q hb=>by simp only[Option.some.injEq,Addr.mk.injEq] at hb;obtain⟨rfl,_⟩:=hb;exact hnd)
 rw[hpl] at h8
 exact h8
theorem store_raw (x:DvR)(v:Dev)(y:Laid)(hm:¬mayF y.b=true)(hl:y.raw.length≤64)(w:World)(hs:Sat (vS x v) w)(hsl:V.slAt w y.rp 1 byE y.raw)(hnd:∀b o,0<y.raw.length→y.rp=some ⟨b,o,none⟩→b∉V.ids (vS x v)):Calls Tryz.prog 23 [.pointer (some ⟨x.db,0,none⟩),.int .i64 y.line,.int .i64 y.at_,.slice y.rp y.raw.length y.rc].toArray w fun e w'=>∃_u:Unit,True∧e= .returned (.int .i64 (er2 (thB v.D.length y.line y.at_ y.raw.length)))∧Hp ⟨w,V.ids (vS x v)⟩ (vS x (layV v y)) w':=by
 rw[lay_no hm]
 exact store_v x v y.line y.at_ y.raw y.rp y.rc om_ w hs hsl (fun h0 b o hb=>hnd b o h0 hb)
theorem device_g (n:Nat)(hn:10≤n∧n≤258)(clk:Int)(l:List Laid)(p:Option Addr)(c:Nat)(hl:largeF l=false)(w:World)(hp:LdR w p l):Calls Tryz.prog 7 [.int .i64 (n:Nat),.int .u64 clk,.slice p l.length c].toArray w fun e w'=>∃y:DvR,True∧e= .returned (.pointer (some ⟨y.db,0,none⟩))∧Hp ⟨w,[]⟩ (vS y (devF n clk l)) w':=by
 obtain⟨hl1,hl2⟩:=large_no hl
 refine Cb_ Tryz.func7 rfl Tryz.ntmps7<|Sq<|Rg<|Lv Av<|Nl<|Ps<|Sq<|Rg<|Lv Mv<|Le (CM [] fun w hw hs0=>newDev_g n om_ om_ w) fun x _=>Lv Mv<|Lv Ex<|Lv Ex<|Lv Av<|Lv Av<|Nl<|Ps<|Sq<|Sq<|Rg<|Lv Mv<|Lv Cm<|Lv Mv<|Lv Mv<|Lv EP<|Lv Pf<|Nl<|Ps<|Cf<|Sk<|Ps<|Sq<|Rg<|Lv Mv<|Le (Cm_ (format_g x (⟨List.replicate n ce0,ct0⟩:Dev) (by show 10≤(List.replicate n ce0).length∧(List.replicate n ce0).length≤258;rw[List.length_replicate];exact hn))) fun _ _=>Nl<|Ps<|Sq<|Rg<|Lv Mv<|Lv Mv<|Le (Cn_ (Clock_c clk)) fun b1 _=>Le (CM (vS x (fmtV (⟨List.replicate n ce0,ct0⟩:Dev))) fun w hw hs0=>by have h8:=store_v x (fmtV (⟨List.replicate n ce0,ct0⟩:Dev)) 1 0 (clockL clk) (some ⟨b1,0,none⟩) 64 (by rw[clockL_len];omega) w hs0 (byE_of (hw.own _ (show InS (b1,.cells (byC (clockL clk)).toArray 135 (0,0)) _ from in_).mem)) (fun _ b o hb=>by simp only[Option.some.injEq,Addr.mk.injEq] at hb;obtain⟨rfl,_⟩:=hb;exact not_in hw (show Pick (vS x (fmtV (⟨List.replicate n ce0,ct0⟩:Dev))) _ _ from pk_) (show InS (b1,.cells (byC (clockL clk)).toArray 135 (0,0)) _ from in_));rw[clockL_len] at h8;exact h8) fun _ _=>Nl<|Ps<|Sq<|Sq<|Rg<|Lv Av<|Nl<|Ps<|Bk ?_
 generalize hV1:(fmtV (⟨List.replicate n ce0,ct0⟩:Dev)).store 1 0 (clockL clk)=v1
 refine loopA (γ:=Nat) (fun i=>[(0,.int .i64 (n:Nat)),(2,.slice p l.length c),(7,.pointer (some ⟨x.db,0,none⟩)),(9,.int .i64 (i:Nat))]) (fun i=>vS x ((l.take i).foldl layV v1)) (fun i=>i≤l.length) (fun i=>l.length-i) (0) (Nat.zero_le _) fun i hi1=>pA_ 9 ?_
 refine Cd_ rfl (fun h34=>?_) fun h34=>?_
 ·have hi9:i<l.length:=by omega
  obtain⟨bb1,o1,y,hpe,hb1,hx1,hr1⟩:=V.slAt_at hp.1 rfl (k:=i) hi9
  subst hpe
  have hyl:=hl2 y (List.mem_of_getElem? hx1)
  have hyr:=hp.2 y (List.mem_of_getElem? hx1)
  have hyb:=V.rangeAt_sub (hr1 i y hx1) 1 (show(ldC y).drop 1=blC y.b++[.slice y.rp y.raw.length y.rc,.int .i64 y.at_] from rfl)
  refine pA_ 10 ?_
  refine Lv (Val.loadOA (cs:=blC y.b) rfl Tryz.isAgg53 hb1 (by simp[ids]) hyb (by exact Tryz.sizeOf53))<|Le (Cn_ (encode_c y.b ⟨by omega,by omega⟩)) fun o ho=>?_
  obtain⟨pe,ce,hve,hce,hsrc,hse⟩:=own_src ho
  by_cases hm:mayF y.b=true
  ·have hE:encR y.b=encL y.b:=by unfold encR;rw[if_pos hm]
   have hel:=encL_len hm
   have hsp8:=may_span hm
   have hsp9:=span_le y.b.cls
   rw[hE] at hve hce hsrc hse⊢
   obtain⟨be,hbe,_⟩:=hsrc om_
   subst hbe
   rw[if_pos hm]
   refine Lv Mv<|Lv Ex<|LW.re 44 (.slice (some ⟨be,0,none⟩) (encL y.b).length ce) rfl hve<|pA_ 12 ?_
   refine loopA (γ:=Nat) (fun k=>[(0,.int .i64 (n:Nat)),(2,.slice (some ⟨bb1,o1,none⟩) l.length c),(7,.pointer (some ⟨x.db,0,none⟩)),(9,.int .i64 (i:Nat)),(10,.slice (some ⟨be,0,none⟩) (encL y.b).length ce),(11,.int .i64 0),(12,.int .i64 (k:Nat))]) (fun k=>ownG 5 (byC (encL y.b)) o::vS x (layN ((l.take i).foldl layV v1) y.line (encL y.b) k)) (fun k=>k≤spanF y.b.cls) (fun k=>spanF y.b.cls-k) (0) (Nat.zero_le _) fun k hk1=>pA_ 14 ?_
   refine Cd_ rfl (fun h54=>?_) fun h54=>?_
   ·have hpl:=enc_part (v:=((l.take i).foldl layV v1)) (line:=0) hm (k:=k) om_
    refine pA_ 4 ?_
    refine Dr ([])<|pR_ [0,1,2,3,4] ?_
    refine Rv 5 rfl (Val.loadO rfl Tryz.isAgg3 hb1 (by simp[ids]) (hr1 i y hx1 0 _ rfl))<|Rv 6 rfl Mv<|Rv 7 rfl (Val.arw rfl rfl rfl)<|pR_ [8,9,10,11,12,13] ?_
    refine Rv 14 rfl (Val.slice (64*k) (64*k+64) ce rfl Tryz.underlying54 Tryz.sizeOf5 ⟨_,rfl⟩ ⟨_,rfl⟩ rfl (by simp) om_ om_ om_)<|RW.re 71 (.slice (some ⟨be,64*k,none⟩) 64 (ce-64*k)) rfl (by rw[if_neg om_];simp)<|Re 15 rfl (CM (vS x (layN ((l.take i).foldl layV v1) y.line (encL y.b) k)) fun w hw hs0=>store_part x ((l.take i).foldl layV v1) y.line y.b k hm om_ be ce hce w hs0 (hse hw (show Pick [ownG 5 (byC (encL y.b)) o] _ _ from pk_)) (own_not hw hve (show Pick (ownG 5 (byC (encL y.b)) o::vS x (layN ((l.take i).foldl layV v1) y.line (encL y.b) k)) _ _ from pk_) be 0 rfl)) fun _ _=>pA_ 8 ?_
    exact roundA (k+1) om_ om_
   ·refine pA_ 20 ?_
    have e9:=(fold_up (v:=v1) hx1).trans (lay_yes hm (k:=k) om_)
    rw[← e9]
    exact roundA (i+1) om_ om_
  ·rw[if_neg hm]
   refine Lv Mv<|Lv Ex<|LW.re 44 (.slice pe (encR y.b).length ce) rfl hve<|pA_ 12 ?_
   refine CW.loopU 0<|pA_ 27 ?_
   refine Dr ([])<|pR_ [0,1,2,3,4] ?_
   refine Rv 5 rfl (Val.loadO rfl Tryz.isAgg3 hb1 (by simp[ids]) (hr1 i y hx1 0 _ rfl))<|pR_ [6,7,8,9] ?_
   refine Rv 10 rfl (Val.loadO rfl Tryz.isAgg3 hb1 (by simp[ids]) (hr1 i y hx1 9 _ rfl))<|pR_ [11,12,13,14] ?_
   refine Rv 15 rfl (Val.loadO rfl Tryz.isAgg54 hb1 (by simp[ids]) (hr1 i y hx1 8 _ rfl))<|Re 16 rfl (CM (vS x ((l.take i).foldl layV v1)) fun w hw hs0=>store_raw x ((l.take i).foldl layV v1) y hm om_ w hs0 (hw.slAt hyr (by simp[ids])) (fun b q h0 hb=>lo_not hw (show Pick (vS x ((l.take i).foldl layV v1)) _ _ from pk_) (sl_at hyr h0 hb))) fun _ _=>pA_ 8 ?_
   rw[← fold_up (v:=v1) hx1]
   exact roundA (i+1) om_ om_
 ·refine pA_ 12 ?_
  obtain rfl:i=l.length:=by omega
  rw[List.take_length]
  refine loopA (γ:=Nat) (fun j=>[(0,.int .i64 (n:Nat)),(7,.pointer (some ⟨x.db,0,none⟩)),(13,.int .i64 (j:Nat))]) (fun j=>vS x (backN (l.foldl layV v1) j)) (fun j=>j≤n) (fun j=>n-j) (0) (Nat.zero_le _) fun j hj1=>pA_ 8 ?_
  refine Cd_ rfl (fun h94=>?_) fun h94=>?_
  ·refine pA_ 7 ?_
   refine Le (CM (vS x (backN (l.foldl layV v1) j)) fun w hw hs0=>back_v x (backN (l.foldl layV v1) j) (j:Nat) w hs0) fun _ _=>pA_ 8 ?_
   exact roundA (j+1) om_ om_
  ·refine pA_ 13 ?_
   obtain rfl:j=n:=by omega
   have e8:devF j clk l=backN (l.foldl layV v1) j:=by unfold devF;rw[hV1]
   rw[e8]
   exact fi_ x trivial
end
section
attribute [local irreducible] V.CW V.LW V.QW V.RW V.PQ V.Val V.Eff V.Qcall
open V (str byC ownV ownG ownS ownOk)
instance:Cal Tryz.prog 9:=⟨Tryz.call9⟩
instance:Cal Tryz.prog 12:=⟨Tryz.call12⟩
instance:Cal Tryz.prog 20:=⟨Tryz.call20⟩
instance:Cal Tryz.prog 21:=⟨Tryz.call21⟩
instance:Cal Tryz.prog 22:=⟨Tryz.call22⟩
theorem aw_len:((fmtV ⟨List.replicate 10 ce0,ct0⟩)).D.length=10:=by rw[fmtV_len];rfl
theorem aw_st:∀k<13,(runN (fmtV ⟨List.replicate 10 ce0,ct0⟩) cor0 k).2.ph<6∧(stp (runN (fmtV ⟨List.replicate 10 ce0,ct0⟩) cor0 k).1 (runN (fmtV ⟨List.replicate 10 ce0,ct0⟩) cor0 k).2).2.2=0:=by decide+kernel
theorem aw_end:(runN (fmtV ⟨List.replicate 10 ce0,ct0⟩) cor0 13).2.ph=6∧(runN (fmtV ⟨List.replicate 10 ce0,ct0⟩) cor0 13).2.kp.length=0:=by decide+kernel
theorem step_gT (rb:Nat)(x:DvR)(v:Dev)(k:Nat)(r:Rvl)(th:Nat)(h1:1≤th)(h4:th≤4)(hL:0<v.D.length∧v.D.length≤1000)(hc:corOf r=(runN v cor0 k).2)(ar:Option (ArR×ArS))(hX:RvX th v.D.length r ar):Mo Tryz.prog 12 [.pointer (some ⟨rb,0,none⟩)] (rvG rb x (runN v cor0 k).1 r ar) (fun q:Rvl×Option (ArR×ArS)=>corOf q.1=(runN v cor0 (k+1)).2∧RvX th v.D.length q.1 q.2) (fun _=> .int .i64 (stp (runN v cor0 k).1 (runN v cor0 k).2).2.2) (fun q=>rvG rb x (runN v cor0 (k+1)).1 q.1 q.2):=by
 intro w hs
 have hi:=(runN_inv hL k).1
 have hl:=hi.len
 rw[← hc] at hi
 have h8:=step_g rb x (runN v cor0 k).1 r ar th h1 h4 (by rw[hl];exact hi) (by rw[hl];exact hX) w hs
 rw[hl,hc] at h8
 exact h8
theorem awake_g:Rz Tryz.prog 5 [] (.bool true):=by
 intro w
 refine Cb_ Tryz.func5 rfl Tryz.ntmps5<|pA_ 7 ?_
 refine Le (CM [] fun w hw hs0=>newDev_g 10 om_ om_ w) fun x _=>pA_ 18 ?_
 refine Le (Cm_ (format_g x (⟨List.replicate 10 ce0,ct0⟩:Dev) (by show 10≤(List.replicate 10 ce0).length∧(List.replicate 10 ce0).length≤258;rw[List.length_replicate];omega))) fun _ _=>pA_ 10 ?_
 refine Le (Cn_ (rnew2_g x.db 1 om_)) fun rb _=>pA_ 28 ?_
 refine loopA (γ:=Nat×Rvl×Option (ArR×ArS)) (fun z=>[(3,.pointer (some ⟨rb,0,none⟩)),(5,.int .i64 (z.1:Nat))]) (fun z=>rvG rb x (runN (fmtV ⟨List.replicate 10 ce0,ct0⟩) cor0 z.1).1 z.2.1 z.2.2) (fun z=>z.1≤13∧corOf z.2.1=(runN (fmtV ⟨List.replicate 10 ce0,ct0⟩) cor0 z.1).2∧RvX 1 ((fmtV ⟨List.replicate 10 ce0,ct0⟩)).D.length z.2.1 z.2.2) (fun z=>13-z.1) ((0,rv0 1,none)) ⟨Nat.zero_le _,rfl,rvx0 1 _⟩ fun z=>?_
 rintro⟨hz,hc,hX⟩
 refine pA_ 7 ?_
 refine Cd_ rfl (fun h35=>?_) fun h35=>?_
 ·have hst:=aw_st z.1 om_
  obtain⟨k,r,ar⟩:=z
  obtain⟨hst1,hst⟩:=hst
  have h26:r.ph<6:=by
   have h8:(corOf r).ph<6:=by rw[hc];exact hst1
   exact h8
  obtain rfl:ar=none:=by
   cases ar with
   |none=>rfl
   |some y=>have h8:=hX.has;rw[decide_eq_false (by simp only at h26⊢;omega)] at h8;cases h8
  refine pA_ 7 ?_
  refine Le (Cm_ (step_gT rb x (fmtV ⟨List.replicate 10 ce0,ct0⟩) k r 1 om_ om_ ⟨by rw[aw_len];omega,by rw[aw_len];omega⟩ hc none hX)) fun q hq=>?_
  obtain⟨r2,ar2⟩:=q
  obtain⟨hq1,hq2⟩:=hq
  refine LW.re 39 (.int .i64 0) rfl (by rw[hst]) ?_
  rcases ar2 with _|y
  ·skip
   refine pA_ 12 ?_
   exact roundA ((k+1,r2,_)) ⟨by simp only;omega,hq1,hq2⟩ (by simp only;omega)
  ·skip
   refine pA_ 12 ?_
   exact roundA ((k+1,r2,_)) ⟨by simp only;omega,hq1,hq2⟩ (by simp only;omega)
 ·have hz9:z.1=13:=by omega
  have hend:=aw_end
  rw[← hz9,← hc] at hend
  obtain⟨h6',hk0'⟩:=hend
  have h6:z.2.1.ph=6:=h6'
  have hk0:z.2.1.kp.length=0:=hk0'
  refine pA_ 8 ?_
  refine Le (CV fun w hw=>arena2_g rb x.db z.2.1 w hw.at) fun _ _=>pA_ 3 ?_
  refine LW.re 45 (.bool true) rfl (by rw[decide_eq_true h6])<|pA_ 9 ?_
  refine Le (CV fun w hw=>phase_g rb x.db z.2.1 w hw.at) fun _ _=>LW.re 49 (.int .i64 6) rfl (by rw[h6])<|pA_ 4 ?_
  refine Le (Cm_ (kept_g rb x.db z.2.1 hX.kp om_)) fun o ho=>?_
  obtain⟨pd,cd,hvd,_⟩:=own_slF z.2.1.kp o ho
  refine LW.re 54 (.slice pd 0 cd) rfl (by rw[hvd,hk0])<|pA_ 8 ?_
  exact fb_
end
section
attribute [local irreducible] V.CW V.LW V.QW V.RW V.PQ V.Val V.Eff V.Qcall
open V (str byC ownV ownG ownS ownOk)
theorem ldr_up {w0 w:World}{sg:V.Sg}{p:Option Addr}{l:List Laid}(hw:Hp ⟨w0,[]⟩ sg w)(h:LdR w0 p l):LdR w p l:=⟨hw.slAt h.1 (by simp[ids]),fun x hx=>hw.slAt (h.2 x hx) (by simp[ids])⟩
end
section
attribute [local irreducible] V.CW V.LW V.QW V.RW V.PQ V.Val V.Eff V.Qcall
open V (str byC ownV ownG ownS ownOk)
theorem dec_len {l:List UInt8}{b:Blk}{c kd:Nat}(hh:headF (l.take 64)=some (c,kd))(h:decF l=some b):b=decX l c kd∧l.length=spanF c*64∧mayF b=true∧encL b=l:=by
 unfold decF at h
 rw[hh] at h
 simp only at h
 split at h
 ·rename_i h8
  simp only[Option.some.injEq] at h
  subst h
  exact⟨rfl,h8.1,h8.2.2⟩
 ·cases h
theorem lines_take {D:List Ce}{line:Int}{n:Nat}(hn:1≤n)(h:(nowL D line).length=64):(linesL D line n).take 64=nowL D line:=by
 obtain⟨m,rfl⟩:∃m,n=m+1:=⟨n-1,by omega⟩
 have e:linesL D line (m+1)=nowL D line++(List.range m).flatMap fun i:Nat=>nowL D (line+((i+1:Nat):Int)):=by
  unfold linesL
  rw[List.range_succ_eq_map,List.flatMap_cons,List.flatMap_map]
  congr 1
  simp
 rw[e,List.take_append_of_le_length om_,List.take_of_length_le om_]
theorem scN_head {D:List Ce}{nx:Int}{f:Fnd}(h:scN D nx=some f):∃c kd:Nat,headF (nowL D (2+nx))=some (c,kd)∧kd≠0∧f=lookF D (2+nx) (c:Nat) (kd:Nat):=by
 unfold scN at h
 split at h
 ·cases h
 ·rename_i c kd hh
  split at h
  ·cases h
  ·rename_i hk
   simp only[Option.some.injEq] at h
   exact⟨c,kd,hh,hk,h.symm⟩
theorem new_irr (e:Int)(f:Fnd):newF e f f=false:=by unfold newF;simp
end
section
attribute [local irreducible] V.CW V.LW V.QW V.RW V.PQ V.Val V.Eff V.Qcall
open V (str byC ownV ownG ownS ownOk)
abbrev fdA (D:List Ce):List Fnd:=fds D (slabsF D.length*8)
abbrev kpA (D:List Ce):List Fnd:=decK (openF D).1 (fdA D)
structure Run (D0:List Ce)(v:Dev)(c:Cor):Prop where
 p7:c.ph≤7
 q:c.ph≤2∨c.ph=7→v.D=D0
 e:1≤c.ph→c.ph≤6→(openF D0).2=0∧c.e=(openF D0).1
 k:3≤c.ph→c.ph≤6→ovE D0.length (kpA D0)=0
 b:c.ph=7→(openF D0).2≠0∨ovE D0.length (kpA D0)≠0
theorem scC_e (D:List Ce)(c:Cor):(scC D c).e=c.e:=by unfold scC;split<;>rfl
theorem wpC_e (q:Fnd→Bool)(c:Cor)(p:Int):(wpC q c p).e=c.e:=by unfold wpC;split<;>rfl
theorem run0 (v:Dev):Run v.D v cor0:=⟨by decide,fun _=>rfl,fun h=>absurd h (by decide),fun h=>absurd h (by decide),fun h=>absurd h (by decide)⟩
theorem Run.step {n:Nat}{D0:List Ce}{v:Dev}{c:Cor}(h:Run D0 v c)(hC:Cln D0 v c)(hI:Inv n v c)(hn:D0.length=n):Run D0 (stp v c).1 (stp v c).2.1:=by
 have hp:=hI.ph
 have hnx:=hI.nx
 have hlen:=hI.len
 unfold stp
 by_cases h0:c.ph=0
 ·rw[if_pos h0]
  have hv:=h.q (.inl om_)
  simp only
  split
  ·rename_i ho
   rw[hv] at ho
   exact⟨by simp,fun _=>hv,fun _ _=>⟨ho,by rw[hv]⟩,fun h8=>absurd h8 (by simp),fun h8=>absurd h8 (by simp)⟩
  ·rename_i ho
   rw[hv] at ho
   exact⟨by simp,fun _=>hv,fun _ h8=>absurd h8 (by simp),fun _ h8=>absurd h8 (by simp),fun _=> .inl ho⟩
 rw[if_neg h0]
 by_cases h1:c.ph=1
 ·rw[if_pos h1]
  have hv:=h.q (.inl om_)
  have he:=h.e om_ om_
  simp only
  have h9:(scC v.D c).ph=1∨(scC v.D c).ph=2:=by
   rcases scC_cases v.D c with⟨_,h8,_⟩|⟨_,h8,_⟩<;>omega
  exact⟨by omega,fun _=>hv,fun _ _=>⟨he.1,(scC_e _ _).trans he.2⟩,fun h8=>absurd h8 om_,fun h8=>absurd h8 om_⟩
 rw[if_neg h1]
 by_cases h2:c.ph=2
 ·rw[if_pos h2]
  have hv:=h.q (.inl om_)
  have he:=h.e om_ om_
  have hf:=hC.f2 om_ om_
  have hk:decK c.e c.fd=kpA D0:=by rw[he.2,hf]
  simp only
  split
  ·rename_i ho
   rw[hk,hlen,← hn] at ho
   exact⟨by simp,fun h8=>absurd h8 (by simp),fun _ _=>he,fun _ _=>ho,fun h8=>absurd h8 (by simp)⟩
  ·rename_i ho
   rw[hk,hlen,← hn] at ho
   exact⟨by simp,fun _=>hv,fun _ h8=>absurd h8 (by simp),fun _ h8=>absurd h8 (by simp),fun _=> .inr ho⟩
 rw[if_neg h2]
 by_cases h3:c.ph=3
 ·rw[if_pos h3]
  have he:=h.e om_ om_
  have hk:=h.k om_ om_
  simp only
  have h9:(wpC (scrubF c.e c.fd) c 4).ph=3∨(wpC (scrubF c.e c.fd) c 4).ph=4:=by
   rcases wpC_cases (scrubF c.e c.fd) c 4 hnx with⟨h8,_⟩|⟨h8,_⟩<;>omega
  exact⟨by omega,fun h8=>absurd h8 om_,fun _ _=>⟨he.1,(wpC_e _ _ _).trans he.2⟩,fun _ _=>hk,fun h8=>absurd h8 om_⟩
 rw[if_neg h3]
 by_cases h4:c.ph=4
 ·rw[if_pos h4]
  have he:=h.e om_ om_
  have hk:=h.k om_ om_
  simp only
  have h9:(wpC (antiF c.e) c 5).ph=4∨(wpC (antiF c.e) c 5).ph=5:=by
   rcases wpC_cases (antiF c.e) c 5 hnx with⟨h8,_⟩|⟨h8,_⟩<;>omega
  exact⟨by omega,fun h8=>absurd h8 om_,fun _ _=>⟨he.1,(wpC_e _ _ _).trans he.2⟩,fun _ _=>hk,fun h8=>absurd h8 om_⟩
 rw[if_neg h4]
 by_cases h5:c.ph=5
 ·rw[if_pos h5]
  have he:=h.e om_ om_
  have hk:=h.k om_ om_
  exact⟨by simp,fun h8=>absurd h8 (by simp),fun _ _=>he,fun _ _=>hk,fun h8=>absurd h8 (by simp)⟩
 rw[if_neg h5]
 exact h
end
section
attribute [local irreducible] V.CW V.LW V.QW V.RW V.PQ V.Val V.Eff V.Qcall
open V (str byC ownV ownG ownS ownOk)
theorem nmF_lay (v:Int):∀n:Nat,nmF (layF n v)=v.toNat%256^n
 |0=>by simp[layF,nmF,Nat.mod_one]
 |n+1=>by
  rw[layF_succ,nmF_snoc,nmF_lay v n,layF_len,Nat.mod_pow_succ]
  congr 2
  unfold layB
  rw[UInt8.toNat_ofNat',Nat.mod_eq_of_lt (Nat.mod_lt _ om_)]
theorem getN_rng {l:List UInt8}{a n:Nat}(hn:n≤8)(h:a+n≤l.length):0≤getN l a n∧getN l a n<((256^n:Nat):Int):=by
 have h8:=nmF_lt ((l.drop a).take n)
 have hl:((l.drop a).take n).length=n:=by rw[List.length_take,List.length_drop];omega
 rw[hl] at h8
 rw[getN_num l a hn h]
 omega
theorem getN_rng8 {l:List UInt8}{a:Nat}(h:a+8≤l.length):0≤getN l a 8∧getN l a 8<18446744073709551616:=by
 have h8:=getN_rng (l:=l) (a:=a) (n:=8) om_ h
 rw[show(256^8:Nat)=18446744073709551616 by decide] at h8
 omega
theorem may_kind {x:Blk}(h:mayF x=true):0≤x.kind∧x.kind≤3:=by
 have hs:=may_span h
 unfold mayF at h
 rw[if_neg hs] at h
 by_cases k0:x.kind=0
 ·omega
 rw[if_neg k0,Bool.and_eq_true] at h
 have h1:=h.1
 by_cases k1:x.kind=1
 ·omega
 rw[if_neg k1] at h1
 by_cases k2:x.kind=2
 ·omega
 rw[if_neg k2] at h1
 by_cases k3:x.kind=3
 ·omega
 rw[if_neg k3] at h1
 cases h1
theorem dataL_le {l:List UInt8}(h:l.length≤1000)(h64:64≤l.length):(dataL l).length≤2000:=by
 unfold dataL
 rw[dataTo_len l (l.length/64-1) om_]
 omega
theorem decX_num {l:List UInt8}{c kd:Nat}(h:64≤l.length)(hl:l.length≤1000):numOk (decX l c kd):=by
 have hd:=dataL_le hl h
 refine⟨getN_rng8 om_,getN_rng8 om_,getN_rng8 om_,?_⟩
 unfold decX
 simp only[List.length_take,List.length_drop]
 omega
theorem enc_one {x:Blk}(h:numOk x):(encL x)[0]? =some 1:=by
 rw[encL_eq h]
 unfold hd32
 rfl
theorem dec_ref (l:List UInt8):decF l=if 64≤l.length∧(l[1]?.getD 0).toNat≤3∧l.length=64*spanF ((l[1]?.getD 0).toNat:Nat)∧keysN l+valsN l≤(dataL l).length∧mayF (decX l (l[1]?.getD 0).toNat (l[2]?.getD 0).toNat)=true∧encL (decX l (l[1]?.getD 0).toNat (l[2]?.getD 0).toNat)=l then some (decX l (l[1]?.getD 0).toNat (l[2]?.getD 0).toNat) else none:=by
 have ht:64≤l.length→(l.take 64)[0]? =l[0]? ∧(l.take 64)[1]? =l[1]? ∧(l.take 64)[2]? =l[2]? :=fun h=>⟨by rw[List.getElem?_take_of_lt om_],by rw[List.getElem?_take_of_lt om_],by rw[List.getElem?_take_of_lt om_]⟩
 split
 ·rename_i hh
  obtain⟨h1,h2,h3,h4,h5,h6⟩:=hh
  obtain⟨t0,t1,t2⟩:=ht h1
  have hsp:spanF ((l[1]?.getD 0).toNat:Nat)≠0:=by
   rcases spanF_cases ((l[1]?.getD 0).toNat:Nat) with⟨a,e⟩|⟨a,e⟩|⟨a,e⟩|⟨a,e⟩|⟨a,e⟩<;>omega
  have hle:=span_le ((l[1]?.getD 0).toNat:Nat)
  have hnum:numOk (decX l (l[1]?.getD 0).toNat (l[2]?.getD 0).toNat):=decX_num h1 om_
  have hk:=may_kind h5
  have hk2:(l[2]?.getD 0).toNat≤3:=by
   have:(decX l (l[1]?.getD 0).toNat (l[2]?.getD 0).toNat).kind=(((l[2]?.getD 0).toNat:Nat):Int):=rfl
   omega
  have h0:=enc_one hnum
  rw[h6] at h0
  have hhd:headF (l.take 64)=some ((l[1]?.getD 0).toNat,(l[2]?.getD 0).toNat):=by
   unfold headF
   rw[t0,t1,t2,if_pos ⟨by rw[List.length_take];omega,h0,hsp,hk2⟩]
  exact dec_yes hhd ⟨by omega,h4,h5,h6⟩
 ·rename_i hh
  cases hd:decF l with
  |none=>rfl
  |some b=>
   exfalso
   apply hh
   cases hhd:headF (l.take 64) with
   |none=>rw[dec_none hhd] at hd;cases hd
   |some p=>
    obtain⟨c,kd⟩:=p
    obtain⟨e1,e2,e3,e4⟩:=dec_len hhd hd
    have hs:=head_some hhd
    have h64:64≤l.length:=by have:=hs.1;rw[List.length_take] at this;omega
    obtain⟨t0,t1,t2⟩:=ht h64
    have hc:c=(l[1]?.getD 0).toNat∧kd=(l[2]?.getD 0).toNat:=by
     unfold headF at hhd
     rw[t0,t1,t2] at hhd
     split at hhd
     ·simp only[Option.some.injEq,Prod.mk.injEq] at hhd
      exact⟨hhd.1.symm,hhd.2.symm⟩
     ·cases hhd
    rw[← hc.1,← hc.2]
    have hkv:keysN l+valsN l≤(dataL l).length:=by
     unfold decF at hd
     rw[hhd] at hd
     simp only at hd
     split at hd
     ·rename_i h8;exact h8.2.1
     ·cases hd
    exact⟨h64,hs.2.2.2,by omega,hkv,by rw[← e1];exact e3,by rw[← e1];exact e4⟩
theorem super_get {n:Int}(h:10≤n∧n≤258):getN (superL n) 5 4=n:=by
 rw[getN_num _ _ om_ (by rw[superL_len];omega),super_whole ⟨by omega,by omega⟩]
 have e:(wholeF ([4,70,85,83,69]++layF 4 n)).drop 5=layF 4 n++(layF 4 (sumF ([4,70,85,83,69]++layF 4 n))++List.replicate 51 0):=by
  unfold wholeF
  simp only[List.append_assoc]
  rfl
 rw[e,List.take_append_of_le_length (by rw[layF_len];omega),List.take_of_length_le (by rw[layF_len];omega),nmF_lay]
 rw[Nat.mod_eq_of_lt om_]
 omega
theorem super_yes {b:B64}{n:Int}(hn:10≤n∧n≤258)(h:superL n=b.1):isSuperF b=(n,true):=by
 have h8:=super_get hn
 unfold isSuperF
 rw[← h,h8,if_neg om_,IntWalk.i64_in _ om_,if_pos rfl]
theorem super_no {b:B64}(h:∀n:Int,10≤n→n≤258→superL n≠b.1):isSuperF b=(0,false):=by
 unfold isSuperF
 split
 ·rfl
 ·rename_i h1
  rw[IntWalk.i64_in _ om_,if_neg fun e=>h _ om_ om_ e.symm]
def payR (f:Fnd):Bool:=decide (f.b.kind=1)||decide (f.b.kind=2)
def rising (l:List Fnd):Prop:=l.Pairwise fun a b=>a.line<b.line
def kindOk (e:Int)(l:List Fnd):Prop:=∀f∈l,soundF e f=true→f.b.kind=1∨f.b.kind=2∨f.b.kind=3
theorem rise_at {l:List Fnd}(h:rising l){i k:Nat}{x y:Fnd}(hx:l[i]? =some x)(hy:l[k]? =some y):(y.line<x.line↔k<i)∧(k=i↔x=y):=by
 obtain⟨hi,ei⟩:=List.getElem?_eq_some_iff.1 hx
 obtain⟨hk,ek⟩:=List.getElem?_eq_some_iff.1 hy
 have hp:=List.pairwise_iff_getElem.1 h
 rcases Nat.lt_trichotomy k i with h1|h1|h1
 ·have h2:=hp k i hk hi h1
  rw[ek,ei] at h2
  exact⟨⟨fun _=>h1,fun _=>h2⟩,⟨fun h3=>absurd h3 om_,fun h3=>by rw[h3] at h2;omega⟩⟩
 ·subst h1
  rw[hx,Option.some.injEq] at hy
  subst hy
  exact⟨⟨fun h3=>absurd h3 om_,fun h3=>absurd h3 om_⟩,⟨fun _=>rfl,fun _=>rfl⟩⟩
 ·have h2:=hp i k hi hk h1
  rw[ek,ei] at h2
  exact⟨⟨fun h3=>absurd h3 om_,fun h3=>absurd h3 om_⟩,⟨fun h3=>absurd h3 om_,fun h3=>by rw[h3] at h2;omega⟩⟩
def agR (e:Int)(x y:Fnd)(i k:Nat):Bool:= !decide (k=i)&&soundF e y&&decide (y.b.id=x.b.id)&&(decide (x.b.ver<y.b.ver)||(payR y&&decide (y.b.ver=x.b.ver)&&decide (k<i)))
theorem ag_new {e:Int}{l:List Fnd}(h:rising l)(hk:kindOk e l){i k:Nat}{x y:Fnd}(hx:l[i]? =some x)(hy:l[k]? =some y):agR e x y i k=newF e y x:=by
 obtain⟨h1,h2⟩:=rise_at h hx hy
 by_cases e1:k=i
 ·have e2:=h2.1 e1
  subst e2
  rw[new_irr]
  unfold agR
  simp[e1]
 ·unfold agR newF
  cases hs:soundF e y with
  |false=>simp
  |true=>
   have h3:=hk y (List.mem_of_getElem? hy) hs
   have e3:payR y=payF e y:=by
    unfold payR payF
    rw[hs]
    rcases h3 with h3|h3|h3<;>simp[h3]
   have e4:decide (k<i)=decide (y.line<x.line):=decide_eq_decide.2 h1.symm
   rw[e3,e4]
   simp[e1]
theorem keep_ref {e:Int}{l:List Fnd}(h:rising l)(hk:kindOk e l){i:Nat}{x:Fnd}(hx:l[i]? =some x):keepF e l x=(soundF e x&&payR x&&(List.range l.length).all fun k=> !(l[k]?.map fun y=>agR e x y i k).getD false):=by
 have e1:payF e x=(soundF e x&&payR x):=by
  unfold payF payR
  cases hs:soundF e x with
  |false=>rfl
  |true=>
   rcases hk x (List.mem_of_getElem? hx) hs with h3|h3|h3<;>simp[h3]
 unfold keepF
 rw[e1]
 congr 1
 rw[Bool.eq_iff_iff,Bool.not_eq_true',List.any_eq_false,List.all_eq_true]
 constructor
 ·intro hn k hkr
  rw[List.mem_range] at hkr
  have hy:l[k]? =some l[k]:=List.getElem?_eq_getElem hkr
  rw[hy]
  simp only[Option.map_some,Option.getD_some]
  rw[ag_new h hk hx hy]
  have:=hn l[k] (List.getElem_mem hkr)
  simpa using this
 ·intro ha y hy
  obtain⟨k,hky⟩:=List.mem_iff_getElem?.1 hy
  have hkl:=(List.getElem?_eq_some_iff.1 hky).1
  have:=ha k (List.mem_range.2 hkl)
  rw[hky] at this
  simp only[Option.map_some,Option.getD_some] at this
  rw[ag_new h hk hx hky] at this
  simpa using this
theorem fds_rise (D:List Ce)(m:Int):rising (fds D m):=by
 unfold fds rising
 refine List.Pairwise.filterMap _ (R:=fun a b:Nat=>a<b) (fun a b hab x hx y hy=>?_) List.pairwise_lt_range
 have h1:=scN_line hx
 have h2:=scN_line hy
 omega
theorem fds_kind (D:List Ce)(m e:Int):kindOk e (fds D m):=by
 intro f hf hs
 obtain⟨i,_,hi⟩:=fds_mem.1 hf
 obtain⟨c,kd,hh,hk0,hfl⟩:=scN_head hi
 have hg:f.good=true:=by unfold soundF at hs;simp only[Bool.and_eq_true] at hs;exact hs.1
 unfold lookF at hfl
 split at hfl
 ·cases hd:decF (linesL D (2+(i:Nat)) (spanF ((c:Nat):Int))) with
  |none=>rw[hd] at hfl;rw[hfl] at hg;cases hg
  |some b=>
   rw[hd] at hfl
   have h8:=lines_take (D:=D) (line:=2+(i:Nat)) (n:=spanF (c:Nat)) (by have:=(head_some hh).2.1;omega) (head_some hh).1
   obtain⟨h9,_,hm,_⟩:=dec_len (by rw[h8];exact hh) hd
   have hk:=may_kind hm
   have hkd:f.b.kind=(kd:Nat):=by rw[hfl,h9];rfl
   have hb:f.b=b:=by rw[hfl]
   rw[hb] at hkd⊢
   omega
 ·rw[hfl] at hg;cases hg
end
section
attribute [local irreducible] V.CW V.LW V.QW V.RW V.PQ V.Val V.Eff V.Qcall
open V (str byC ownV ownG ownS ownOk)
structure RCo where
 ph:Int
 e:Int
 l:List Fnd
 nx:Int
 dn:Nat
 dc:Bool
def rco0:RCo:=⟨0,0,[],2,0,false⟩
def rwp (v:Dev)(c:RCo)(w:List Fnd):Dev×RCo×Int:=match w[c.dn]? with
 |some f=>(wipeV v f,{c with dn:=c.dn+1},0)
 |none=>(v.fence,{c with dn:=0,ph:=c.ph+1},0)
def rstp (v:Dev)(c:RCo):Dev×RCo×Int:=
 if c.ph=0 then(v,if(openF v.D).2=0 then {c with e:=(openF v.D).1,ph:=1} else {c with ph:=7},(openF v.D).2)
 else if c.ph=1 then(v,{c with l:=scFd v.D (c.nx-2) c.l,nx:=c.nx+1,ph:=if c.nx+1=2+8*slabsF v.D.length then 2 else 1},0)
 else if c.ph=2 then(v,if ovE v.D.length (decK c.e c.l)=0 then {c with dc:=true,ph:=3} else {c with ph:=7},ovE v.D.length (decK c.e c.l))
 else if c.ph=3 then rwp v c (c.l.filter (scrubF c.e c.l))
 else if c.ph=4 then rwp v c (c.l.filter (antiF c.e))
 else if c.ph=5 then(v,{c with ph:=6},0)
 else(v,c,12)
structure Rel (c:Cor)(d:RCo):Prop where
 ph:d.ph=c.ph
 e:d.e=c.e
 l:d.l=c.fd
 nx0:c.ph=0→d.nx=2∧c.nx=0
 nx:c.ph=1→d.nx=2+c.nx
 d2:c.ph≤2→d.dn=0
 d3:c.ph=3→d.dn=((c.fd.take c.nx.toNat).filter (scrubF c.e c.fd)).length
 d4:c.ph=4→d.dn=((c.fd.take c.nx.toNat).filter (antiF c.e)).length
 dc:d.dc=decide (3≤c.ph∧c.ph≤6)
 kp:c.kp=if d.dc=true then decK c.e c.fd else[]
theorem rel0:Rel cor0 rco0:=⟨rfl,rfl,rfl,fun _=>⟨rfl,rfl⟩,fun h=>absurd h (by decide),fun _=>rfl,fun h=>absurd h (by decide),fun h=>absurd h (by decide),by decide,rfl⟩
theorem next_at {q:Fnd→Bool}{fd:List Fnd}{nx:Int}{y:Nat×Fnd}(h0:0≤nx)(h:nextW q (fd.drop nx.toNat)=some y):(fd.filter q)[((fd.take nx.toNat).filter q).length]? =some y.2:=by
 have h1:=take_more h0 h
 have h2:fd.filter q=(fd.take (nx+((y.1+1:Nat):Int)).toNat).filter q++(fd.drop (nx+((y.1+1:Nat):Int)).toNat).filter q:=by rw[← List.filter_append,List.take_append_drop]
 rw[h2,h1,List.append_assoc,List.getElem?_append_right (Nat.le_refl _),Nat.sub_self]
 rfl
theorem next_end {q:Fnd→Bool}{fd:List Fnd}{nx:Int}(h:nextW q (fd.drop nx.toNat)=none):(fd.filter q)[((fd.take nx.toNat).filter q).length]? =none:=by
 rw[take_all h,List.getElem?_eq_none (Nat.le_refl _)]
theorem rel_wp {v:Dev}{c:Cor}{d:RCo}{q:Fnd→Bool}(h0:0≤c.nx)(hd:d.dn=((c.fd.take c.nx.toNat).filter q).length):(rwp v d (c.fd.filter q)).1=wpD q v c∧(rwp v d (c.fd.filter q)).2.2=0∧((∃y,nextW q (c.fd.drop c.nx.toNat)=some y∧(rwp v d (c.fd.filter q)).2.1={d with dn:=d.dn+1}∧d.dn+1=((c.fd.take (c.nx+((y.1+1:Nat):Int)).toNat).filter q).length)∨(nextW q (c.fd.drop c.nx.toNat)=none∧(rwp v d (c.fd.filter q)).2.1={d with dn:=0,ph:=d.ph+1})):=by
 unfold rwp wpD
 rw[hd]
 cases hq:nextW q (c.fd.drop c.nx.toNat) with
 |some y=>
  rw[next_at h0 hq]
  refine⟨rfl,rfl,.inl ⟨y,rfl,rfl,?_⟩⟩
  rw[take_more h0 hq,List.length_append,List.length_singleton]
 |none=>
  rw[next_end hq]
  exact⟨rfl,rfl,.inr ⟨rfl,rfl⟩⟩
theorem Rel.step {n:Nat}{v:Dev}{c:Cor}{d:RCo}(h:Rel c d)(hI:Inv n v c):(rstp v d).1=(stp v c).1∧(rstp v d).2.2=(stp v c).2.2∧Rel (stp v c).2.1 (rstp v d).2.1:=by
 have hp:=hI.ph
 have hnx:=hI.nx
 have hlen:=hI.len
 have hph:=h.ph
 have hdc:=h.dc
 have hkp:=h.kp
 unfold stp rstp
 rw[hph,h.e,h.l]
 by_cases h0:c.ph=0
 ·rw[if_pos h0,if_pos h0]
  obtain⟨a1,a2⟩:=h.nx0 h0
  have hdn:=h.d2 om_
  have hcf:d.dc=false:=by rw[hdc];exact decide_eq_false om_
  rw[hcf] at hkp
  refine⟨rfl,rfl,?_⟩
  simp only
  split
  ·exact⟨rfl,rfl,rfl,fun h8=>absurd h8 (by simp),fun _=>by simp only;omega,fun _=>hdn,fun h8=>absurd h8 (by simp),fun h8=>absurd h8 (by simp),by simp only;rw[hcf];exact(decide_eq_false (by first|omega|(simp only;omega))).symm,by simp only;rw[hcf];exact hkp⟩
  ·exact⟨rfl,rfl,rfl,fun h8=>absurd h8 (by simp),fun h8=>absurd h8 (by simp),fun h8=>absurd h8 (by simp),fun h8=>absurd h8 (by simp),fun h8=>absurd h8 (by simp),by simp only;rw[hcf];exact(decide_eq_false (by first|omega|(simp only;omega))).symm,by simp only;rw[hcf];exact hkp⟩
 rw[if_neg h0,if_neg h0]
 by_cases h1:c.ph=1
 ·rw[if_pos h1,if_pos h1]
  have hn:=h.nx h1
  have hdn:=h.d2 om_
  have hn2:=(hI.n2 h1).1
  have hcf:d.dc=false:=by rw[hdc];exact decide_eq_false om_
  rw[hcf] at hkp
  refine⟨rfl,rfl,?_⟩
  simp only
  rw[show d.nx-2=c.nx by omega]
  unfold scC
  rw[hlen]
  split
  ·rename_i hh
   rw[if_pos om_]
   exact⟨rfl,rfl,rfl,fun h8=>absurd h8 (by simp),fun h8=>absurd h8 (by simp),fun _=>hdn,fun h8=>absurd h8 (by simp),fun h8=>absurd h8 (by simp),by simp only;rw[hcf];exact(decide_eq_false (by first|omega|(simp only;omega))).symm,by simp only;rw[hcf];exact hkp⟩
  ·rename_i hh
   rw[if_neg om_]
   exact⟨h1.symm,rfl,rfl,fun h8=>absurd h8 (by simp only;omega),fun _=>by simp only;omega,fun _=>hdn,fun h8=>absurd h8 (by simp only;omega),fun h8=>absurd h8 (by simp only;omega),by simp only;rw[hcf];exact(decide_eq_false om_).symm,by simp only;rw[hcf];exact hkp⟩
 rw[if_neg h1,if_neg h1]
 by_cases h2:c.ph=2
 ·rw[if_pos h2,if_pos h2]
  have hdn:=h.d2 om_
  have hcf:d.dc=false:=by rw[hdc];exact decide_eq_false om_
  rw[hcf] at hkp
  refine⟨rfl,rfl,?_⟩
  simp only
  split
  ·exact⟨rfl,rfl,rfl,fun h8=>absurd h8 (by simp),fun h8=>absurd h8 (by simp),fun h8=>absurd h8 (by simp),fun _=>by simp[hdn],fun h8=>absurd h8 (by simp),(decide_eq_true (by simp only;omega)).symm,rfl⟩
  ·exact⟨rfl,rfl,rfl,fun h8=>absurd h8 (by simp),fun h8=>absurd h8 (by simp),fun h8=>absurd h8 (by simp),fun h8=>absurd h8 (by simp),fun h8=>absurd h8 (by simp),by simp only;rw[hcf];exact(decide_eq_false (by first|omega|(simp only;omega))).symm,by simp only;rw[hcf];exact hkp⟩
 rw[if_neg h2,if_neg h2]
 by_cases h3:c.ph=3
 ·rw[if_pos h3,if_pos h3]
  have hct:d.dc=true:=by rw[hdc];exact decide_eq_true om_
  rw[hct] at hkp
  obtain⟨e1,e2,e3⟩:=rel_wp (v:=v) (q:=scrubF c.e c.fd) hnx (h.d3 h3)
  refine⟨e1,e2,?_⟩
  simp only
  unfold wpC
  rcases e3 with⟨y,hy,e4,e5⟩|⟨hy,e4⟩
  ·rw[hy,e4]
   exact⟨hph,h.e,h.l,fun h8=>absurd h8 (by simp only;omega),fun h8=>absurd h8 (by simp only;omega),fun h8=>absurd h8 (by simp only;omega),fun _=>e5,fun h8=>absurd h8 (by simp only;omega),hdc,by simp only;rw[hct];exact hkp⟩
  ·rw[hy,e4]
   exact⟨by simp only;omega,h.e,h.l,fun h8=>absurd h8 (by simp),fun h8=>absurd h8 (by simp),fun h8=>absurd h8 (by simp),fun h8=>absurd h8 (by simp),fun _=>by simp,by simp only;rw[hct];exact(decide_eq_true (by first|omega|(simp only;omega))).symm,by simp only;rw[hct];exact hkp⟩
 rw[if_neg h3,if_neg h3]
 by_cases h4:c.ph=4
 ·rw[if_pos h4,if_pos h4]
  have hct:d.dc=true:=by rw[hdc];exact decide_eq_true om_
  rw[hct] at hkp
  obtain⟨e1,e2,e3⟩:=rel_wp (v:=v) (q:=antiF c.e) hnx (h.d4 h4)
  refine⟨e1,e2,?_⟩
  simp only
  unfold wpC
  rcases e3 with⟨y,hy,e4,e5⟩|⟨hy,e4⟩
  ·rw[hy,e4]
   exact⟨hph,h.e,h.l,fun h8=>absurd h8 (by simp only;omega),fun h8=>absurd h8 (by simp only;omega),fun h8=>absurd h8 (by simp only;omega),fun h8=>absurd h8 (by simp only;omega),fun _=>e5,hdc,by simp only;rw[hct];exact hkp⟩
  ·rw[hy,e4]
   exact⟨by simp only;omega,h.e,h.l,fun h8=>absurd h8 (by simp),fun h8=>absurd h8 (by simp),fun h8=>absurd h8 (by simp),fun h8=>absurd h8 (by simp),fun h8=>absurd h8 (by simp),by simp only;rw[hct];exact(decide_eq_true (by first|omega|(simp only;omega))).symm,by simp only;rw[hct];exact hkp⟩
 rw[if_neg h4,if_neg h4]
 by_cases h5:c.ph=5
 ·rw[if_pos h5,if_pos h5]
  have hct:d.dc=true:=by rw[hdc];exact decide_eq_true om_
  rw[hct] at hkp
  exact⟨rfl,rfl,rfl,rfl,rfl,fun h8=>absurd h8 (by simp),fun h8=>absurd h8 (by simp),fun h8=>absurd h8 (by simp),fun h8=>absurd h8 (by simp),fun h8=>absurd h8 (by simp),by simp only;rw[hct];exact(decide_eq_true (by first|omega|(simp only;omega))).symm,by simp only;rw[hct];exact hkp⟩
 rw[if_neg h5,if_neg h5]
 exact⟨rfl,rfl,h⟩
end
end G
end Go.Proofs.YteejleakfbnpcaaGreat
namespace Go.Proofs.YteejleakfbnpcaaGreat.V
open Go Go.RowKit
open Go.Sort (putRow putCells mapBlock grow Holds ahead flatK putRowK HoldsK)
open Go.Proofs (sortWorldK)
set_option linter.unusedVariables false
theorem putCells_flat {α:Type}{enc:α→List Value}{k:Nat}(hk:∀x,(enc x).length=k)(l l':List α)(hl:l'.length=l.length)(rest:List Value):putCells id 0 (l'.flatMap enc).toArray (l.flatMap enc++rest).toArray=(l'.flatMap enc++rest).toArray:=by
 have h1:=flatMap_len hk l
 have h2:=flatMap_len hk l'
 have h3:(l'.flatMap enc).length=(l.flatMap enc).length:=by rw[h1,h2,hl]
 apply Array.ext
 ·simp only[putCells,Array.size_mapIdx,List.size_toArray,List.length_append];omega
 ·intro j hj1 hj2
  simp only[putCells,Array.getElem_mapIdx,Nat.zero_le,true_and,Nat.zero_add,Nat.sub_zero,List.size_toArray,id_eq,List.getElem_toArray]
  split
  ·rename_i h
   rw[List.getElem_append_left h,getElem!_pos _ _ (by simpa using h)]
   simp
  ·rename_i h
   rw[List.getElem_append_right (by omega),List.getElem_append_right (by omega)]
   congr 1;omega
section
variable {α:Type}[Inhabited α]
theorem flatK_eq {enc:α→List Value}{k:Nat}(hk:∀x,(enc x).length=k)(l:List α):flatK enc k l.toArray=(l.flatMap enc).toArray:=by
 apply Array.ext
 ·rw[Go.Sort.size_flatK];simp only[List.size_toArray];rw[flatMap_len hk]
 ·intro j h1 h2
  rw[Go.Sort.size_flatK,List.size_toArray] at h1
  have h3:=Go.Sort.get_flatK enc k l.toArray j (by simpa using h1)
  rw[getElem!_pos _ j (by rw[Go.Sort.size_flatK];simpa using h1)] at h3
  rw[h3]
  have h4:=flatMap_get hk l h1
  rw[List.getElem?_eq_getElem (by rw[flatMap_len hk];exact h1)] at h4
  have h5:=(List.getElem?_eq_some_iff.1 h4.symm)
  obtain⟨h6,h7⟩:=h5
  have e1:(l.toArray[j/k]! :α)=l[j/k]! :=by simp
  rw[e1,getElem!_pos (enc (l[j/k]!)) _ h6,h7]
  simp
theorem holdsK_own {enc:α→List Value}{k T g:Nat}(hk:∀x,(enc x).length=k)(l:List α)(rest:List Value){w:World}(h:w.heap[g]? =some (.cells (l.flatMap enc++rest).toArray T (0,0))):HoldsK enc k w g 0 l.toArray:=by
 unfold HoldsK
 rw[flatK_eq hk]
 intro j hj
 simp only[List.size_toArray] at hj
 refine⟨?_,frozen_of h⟩
 refine cell_of_block h ?_
 rw[Nat.zero_add,List.getElem?_append_left hj,List.getElem?_eq_getElem hj]
 rw[getElem!_pos _ _ (by simpa using hj)]
 simp
theorem sorted_hp {enc:α→List Value}{k T g m:Nat}(hk:∀x,(enc x).length=k)(l l':List α)(hl:l'.length=l.length)(rest:List Value){w:World}(os:Array Obj)(h:w.heap[g]? =some (.cells (l.flatMap enc++rest).toArray T (0,0))):
 Hp ⟨w,[g]⟩ [[(g,.cells (l'.flatMap enc++rest).toArray T (0,0))]] (sortWorldK enc k w g 0 m l'.toArray os):=by
 have hlt:g<w.heap.size:=lt_of_some h
 have hheap:(sortWorldK enc k w g 0 m l'.toArray os).heap=(w.heap.modify g (Go.Sort.onCells (putCells id 0 (l'.flatMap enc).toArray)))++os:=by
  unfold sortWorldK putRowK putRow mapBlock grow
  rw[flatK_eq hk];rfl
 have hg:(sortWorldK enc k w g 0 m l'.toArray os).heap[g]? =some (.cells (l'.flatMap enc++rest).toArray T (0,0)):=by
  rw[hheap,Array.getElem?_append_left (by simpa using hlt),Array.getElem?_modify,if_pos rfl,h]
  simp only[Option.map_some,Go.Sort.onCells]
  rw[putCells_flat hk l l' hl]
 refine⟨rfl,rfl,rfl,by rw[hheap];simp,fun b hb hf=>?_,fun p hp=>?_,fun p hp=>?_,by simp⟩
 ·have hne:b≠g:=fun e=>hf (by simp[e])
  rw[hheap,Array.getElem?_append_left (by simpa using hb),Array.getElem?_modify,if_neg (fun e=>hne e.symm)]
 ·simp at hp;subst hp;exact hg
 ·simp at hp;subst hp;exact .inr (by simp)
end
end Go.Proofs.YteejleakfbnpcaaGreat.V
namespace Go.Proofs
open Go.Shelf
def Tryz.lays106_ren:Go.Shelf.Ren:=⟨fun|106=>177|213=>214|265=>253|n=>n,fun|9=>9|3=>3|n=>n,fun|n=>n⟩
theorem Tryz.lays106:Go.Proofs.Lays.n106 Tryz.prog Tryz.lays106_ren:={
 mixed:=by kernel_rfl
 f106:=Tryz.func177.trans (congrArg some (by kernel_rfl))
 f213:=Tryz.func214.trans (congrArg some (by kernel_rfl))
 f265:=Tryz.func253.trans (congrArg some (by kernel_rfl))
 t3:=Tryz.underlying3
 a3:=Tryz.isAgg3
 z3:=Tryz.sizeOf3
 v3:=Tryz.zeroValue3
 t9:=Tryz.underlying9
 a9:=Tryz.isAgg9
 z9:=Tryz.sizeOf9
 v9:=Tryz.zeroValue9}
open Go.RowKit in
theorem Tryz.strings_Compare (a b:ByteArray)(w:World):
 Calls Tryz.prog 177 #[.string a,.string b] w fun e w'=>e= .returned (.int .i64 (Lib.compareBytes a.data.toList b.data.toList))∧w'=w:=Any.strings_Compare Tryz.lays106 a b w
def Tryz.sortF175_ren:Go.Shelf.Ren:=⟨fun|6=>175|15=>213|14=>212|28=>251|29=>252|20=>243|21=>244|22=>245|23=>246|24=>247|25=>248|26=>249|27=>250|46=>267|47=>268|48=>269|49=>270|50=>271|57=>283|n=>n,fun|22=>159|24=>165|25=>280|3=>3|39=>64|0=>0|53=>80|55=>22|4=>4|46=>353|45=>352|50=>143|5=>5|9=>9|66=>368|70=>371|76=>380|77=>381|n=>n,fun|n=>n⟩
theorem Tryz.sortF175:Go.Proofs.SlLaysF0.n6 Tryz.prog Tryz.sortF175_ren:={
 mixed:=by kernel_rfl
 f6:=⟨Tryz.f175.name,by decide,Tryz.func175.trans (congrArg some (by kernel_rfl))⟩
 f14:=⟨Tryz.f212.name,by decide,Tryz.func212.trans (congrArg some (by kernel_rfl))⟩
 f15:=Tryz.func213.trans (congrArg some (by kernel_rfl))
 f20:=⟨Tryz.f243.name,by decide,Tryz.func243.trans (congrArg some (by kernel_rfl))⟩
 f21:=⟨Tryz.f244.name,by decide,Tryz.func244.trans (congrArg some (by kernel_rfl))⟩
 f22:=⟨Tryz.f245.name,by decide,Tryz.func245.trans (congrArg some (by kernel_rfl))⟩
 f23:=⟨Tryz.f246.name,by decide,Tryz.func246.trans (congrArg some (by kernel_rfl))⟩
 f24:=⟨Tryz.f247.name,by decide,Tryz.func247.trans (congrArg some (by kernel_rfl))⟩
 f25:=⟨Tryz.f248.name,by decide,Tryz.func248.trans (congrArg some (by kernel_rfl))⟩
 f26:=⟨Tryz.f249.name,by decide,Tryz.func249.trans (congrArg some (by kernel_rfl))⟩
 f27:=⟨Tryz.f250.name,by decide,Tryz.func250.trans (congrArg some (by kernel_rfl))⟩
 f28:=Tryz.func251.trans (congrArg some (by kernel_rfl))
 f29:=Tryz.func252.trans (congrArg some (by kernel_rfl))
 f46:=⟨Tryz.f267.name,by decide,Tryz.func267.trans (congrArg some (by kernel_rfl))⟩
 f47:=Tryz.func268.trans (congrArg some (by kernel_rfl))
 f48:=Tryz.func269.trans (congrArg some (by kernel_rfl))
 f49:=⟨Tryz.f270.name,by decide,Tryz.func270.trans (congrArg some (by kernel_rfl))⟩
 f50:=⟨Tryz.f271.name,by decide,Tryz.func271.trans (congrArg some (by kernel_rfl))⟩
 f57:=⟨Tryz.f283.name,by decide,Tryz.func283.trans (congrArg some (by kernel_rfl))⟩
 t0:=Tryz.underlying0
 a0:=Tryz.isAgg0
 z0:=Tryz.sizeOf0
 v0:=Tryz.zeroValue0
 t3:=Tryz.underlying3
 a3:=Tryz.isAgg3
 z3:=Tryz.sizeOf3
 v3:=Tryz.zeroValue3
 t4:=Tryz.underlying4
 a4:=Tryz.isAgg4
 z4:=Tryz.sizeOf4
 v4:=Tryz.zeroValue4
 t5:=Tryz.underlying5
 a5:=Tryz.isAgg5
 z5:=Tryz.sizeOf5
 v5:=Tryz.zeroValue5
 t9:=Tryz.underlying9
 a9:=Tryz.isAgg9
 z9:=Tryz.sizeOf9
 v9:=Tryz.zeroValue9
 t22:=Tryz.underlying159
 a22:=Tryz.isAgg159
 z22:=Tryz.sizeOf159
 v22:=Tryz.zeroValue159
 t25:=Tryz.underlying280
 a25:=Tryz.isAgg280
 z25:=Tryz.sizeOf280
 v25:=Tryz.zeroValue280
 t39:=Tryz.underlying64
 a39:=Tryz.isAgg64
 z39:=Tryz.sizeOf64
 v39:=Tryz.zeroValue64
 t45:=Tryz.underlying352
 a45:=Tryz.isAgg352
 z45:=Tryz.sizeOf352
 v45:=Tryz.zeroValue352
 t46:=Tryz.underlying353
 a46:=Tryz.isAgg353
 z46:=Tryz.sizeOf353
 v46:=Tryz.zeroValue353
 t50:=Tryz.underlying143
 a50:=Tryz.isAgg143
 z50:=Tryz.sizeOf143
 v50:=Tryz.zeroValue143
 t53:=Tryz.underlying80
 a53:=Tryz.isAgg80
 z53:=Tryz.sizeOf80
 v53:=Tryz.zeroValue80
 t55:=Tryz.underlying22
 a55:=Tryz.isAgg22
 z55:=Tryz.sizeOf22
 v55:=Tryz.zeroValue22
 t66:=Tryz.underlying368
 a66:=Tryz.isAgg368
 z66:=Tryz.sizeOf368
 v66:=Tryz.zeroValue368
 t70:=Tryz.underlying371
 a70:=Tryz.isAgg371
 z70:=Tryz.sizeOf371
 v70:=Tryz.zeroValue371
 t76:=Tryz.underlying380
 a76:=Tryz.isAgg380
 z76:=Tryz.sizeOf380
 v76:=Tryz.zeroValue380
 t77:=Tryz.underlying381
 a77:=Tryz.isAgg381
 z77:=Tryz.sizeOf381
 v77:=Tryz.zeroValue381}
end Go.Proofs
namespace Go.Proofs.YteejleakfbnpcaaGreat
open Go Go.RowKit V
set_option linter.unusedVariables false
set_option maxRecDepth 100000
namespace G
section
attribute [local irreducible] V.CW V.LW V.QW V.RW V.PQ V.Val V.Eff V.Qcall
open V (str byC ownV ownG ownS ownOk)
instance:Cal Tryz.prog 175:=⟨Tryz.call175⟩
instance:Inhabited Lk:=⟨lk0⟩
theorem cmpB_lt:∀a b:List UInt8,Go.Lib.compareBytes a b<0↔a<b
 |[],[]=>by simp[Go.Lib.compareBytes]
 |[],_::_=>by simp[Go.Lib.compareBytes]
 |_::_,[]=>by simp[Go.Lib.compareBytes]
 |a::x,b::y=>by
  have ih:=cmpB_lt x y
  unfold Go.Lib.compareBytes
  rw[List.cons_lt_cons_iff]
  by_cases h1:a<b
  ·simp[h1]
  ·by_cases h2:b<a
   ·have h3:a≠b:=fun e=>by subst e;exact UInt8.lt_irrefl a h2
    simp[h1,h2,h3]
   ·have h3:a=b:=UInt8.toNat_inj.1 (by rw[UInt8.lt_iff_toNat_lt] at h1 h2;omega)
    subst h3
    simp[h1,ih]
def cfL (x y:Lk):Int:=Go.Lib.compareBytes (byK x.key).data.toList (byK y.key).data.toList
theorem lt_cfL (x y:Lk):Go.Proofs.ltOf cfL x y=decide (x.key<y.key):=by
 unfold Go.Proofs.ltOf
 exact decide_eq_decide.2 (cmpB_lt x.key y.key)
theorem swoL:Go.Sort.SWO (Go.Proofs.ltOf cfL) where
 irrefl x:=by rw[lt_cfL];simp
 trans x y z h1 h2:=by
  rw[lt_cfL] at*
  simp only[decide_eq_true_eq] at*
  exact List.lt_trans h1 h2
 ntrans x y z h1 h2:=by
  rw[lt_cfL] at*
  simp only[decide_eq_false_iff_not,List.not_lt] at*
  exact List.le_trans h2 h1
set_option maxHeartbeats 1000000 in
theorem cmp77_c (x y:Lk)(W:World):Calls Tryz.prog 176 #[.agg #[.string (byK x.key),.int .u64 x.id,.int .u64 x.ver,.int .i64 x.line,.int .i64 x.cls],.agg #[.string (byK y.key),.int .u64 y.id,.int .u64 y.ver,.int .i64 y.line,.int .i64 y.cls]] W fun e w'=>e= .returned (.int .i64 (cfL x y))∧∃q os',w'=Go.Sort.grow (W.drewN q) os':=by
 have hcon:=fun W'=>Tryz.strings_Compare (byK x.key) (byK y.key) W'
 unfold cfL
 generalize Go.Lib.compareBytes (byK x.key).data.toList (byK y.key).data.toList=r at hcon⊢
 go_enter Tryz.func176,Tryz.ntmps176
 go_wp2_with (go_at_call 177;refine(hcon _).mono ?_;rintro e w' ⟨rfl,rfl⟩)
 go_ret
 exact⟨rfl,0,_,by rw[Go.Sort.alloc_eq_grow,Go.Sort.alloc_eq_grow,Go.Sort.grow_grow];rfl⟩
def UpL (L:List Lk):Prop:=L.Pairwise fun a b=>¬b.key<a.key
theorem upL_of {L:List Lk}(h:Go.Sort.SortedIn (Go.Proofs.ltOf cfL) 0 L.length L.toArray):UpL L:=by
 refine List.pairwise_iff_getElem.2 fun i j hi hj hij=>?_
 have:=h i j (Nat.zero_le _) hij hj
 rw[lt_cfL] at this
 simp only[decide_eq_false_iff_not] at this
 have e1:(L.toArray[i]! :Lk)=L[i]:=by simp[hi]
 have e2:(L.toArray[j]! :Lk)=L[j]:=by simp[hj]
 rwa [e1,e2] at this
theorem sortL_c (o:V.OwnO)(L:List Lk)(hok:ownOk 5 L.length (L.flatMap lkC) o)(hl:L.length≤100000):Mo Tryz.prog 175 [ownV L.length o,.func (.func 176) #[] #[]] [ownG 165 (L.flatMap lkC) o] (fun L':List Lk=>L'.Perm L∧UpL L') (fun _=> .tuple #[]) (fun L'=>[ownG 165 (L'.flatMap lkC) o]):=by
 intro w hs
 rcases o with _|⟨g,rest,cap⟩
 ·have h0:L.length=0:=hok.2
  have:L=[]:=List.length_eq_zero_iff.1 h0
  subst this
  refine(AnyF.slices_SortFunc_none Tryz.sortF175 none 0 (.func (.func 176) #[] #[]) w).mono fun e w' ⟨h1,h2⟩=>⟨[],⟨.refl _,.nil⟩,h1,?_⟩
  subst h2
  exact⟨rfl,rfl,rfl,Nat.le_refl _,fun _ _ _=>rfl,by simp[ownG,V.ownS],by simp[ownG,V.ownS],by simp[ownG,V.ownS]⟩
 ·have hown:w.heap[g]? =some (.cells (L.flatMap lkC++rest).toArray 165 (0,0)):=hs.own (g,.cells (L.flatMap lkC++rest).toArray 165 (0,0)) (by simp[ownG,V.ownS])
  have eg:∀args w,(callFunc 176 args).run Tryz.prog w= .ok (.enter 176 args) w:=enters_of Tryz.func176 kr_ rfl
  have hcon:=AnyQ.slices_SortFunc Tryz.sortF175 5 Tryz.isAgg165 Tryz.sizeOf165 lkC (fun _=>rfl) (fun x v hv=>by simp[lkC] at hv;rcases hv with rfl|rfl|rfl|rfl|rfl<;>rfl) cfL swoL 176 #[] g 0 cap L.toArray w eg (fun _ _ _ _ x y=>cmp77_c x y _) (V.holdsK_own (enc:=lkC) (k:=5) (fun _=>rfl) L rest hown) (V.lt_of_some hown) (by simp;omega)
  change Calls Tryz.prog 175 _ _ _ at hcon
  refine hcon.mono fun e w' ⟨h1,d',m,os,hp,hso,hw⟩=>?_
  obtain⟨h2,_,h4⟩:=hp
  simp only[List.size_toArray] at h2 h4 hso
  have h5:d'.toList.length=L.length:=by simpa using h2
  have h6:d'.toList.Perm L:=by
   have e1:d'.extract 0 L.length=d':=by rw[← h2];simp
   have e2:L.toArray.extract 0 L.length=L.toArray:=by simp
   rw[e1,e2] at h4
   simpa using h4
  refine⟨d'.toList,⟨h6,upL_of (by rw[h5];simpa using hso)⟩,h1,?_⟩
  subst hw
  have h7:=V.sorted_hp (enc:=lkC) (k:=5) (T:=165) (g:=g) (m:=m) (fun _=>rfl) L d'.toList h5 rest os hown
  simp only[Array.toArray_toList] at h7
  simpa[ownG,V.ownS,ids] using h7
def tLinks (Tz:Tbl):List Lk:=Tz.flatMap fun p=>p.1.map (·.2)
def tStp (Tz:Tbl):Prop:=∀p∈Tz,V.Stp (me p.1) p.2
def unW (v:Value):Lk:=match v with
 | .agg a=>match a.toList with
  |[.string k,.int _ i,.int _ v,.int _ l,.int _ c]=>⟨k.data.toList,i,v,l,c⟩
  |_=>lk0
 |_=>lk0
theorem unW_lk (x:Lk):unW (lkW x)=x:=rfl
theorem me_un (E:LE):(me E).map (fun e=>unW e.2.2)=E.map (·.2):=by
 unfold me
 rw[List.map_map]
 exact List.map_congr_left fun e _=>unW_lk e.2
theorem me_app (E F:LE):me (E++F)=me E++me F:=by unfold me;exact List.map_append
theorem tLinks_take {Tz:Tbl}{k:Nat}{p:LE×Nat}(h:Tz[k]? =some p):tLinks (Tz.take (k+1))=tLinks (Tz.take k)++p.1.map (·.2):=by
 unfold tLinks
 rw[List.take_add_one,h,Option.toList_some,List.flatMap_append,List.flatMap_singleton]
theorem tLinks_le {Tz:Tbl}(k:Nat):(tLinks (Tz.take k)).length≤(tLinks Tz).length:=by
 have e:tLinks Tz=tLinks (Tz.take k)++tLinks (Tz.drop k):=by
  unfold tLinks
  rw[← List.flatMap_append,List.take_append_drop]
 rw[e,List.length_append];omega
theorem tbC_len (ms:List Nat):(tbC ms).length=ms.length:=by unfold tbC;rw[List.length_map]
theorem tbC_get {ms:List Nat}{i m:Nat}(h:ms[i]? =some m):(tbC ms)[i]? =some (.map (some m)):=by
 have h8:=tbC_at h
 simpa using h8
theorem all_g (tb:Nat)(ms:List Nat)(Tz:Tbl)(hT:tbOk ms Tz)(hst:tStp Tz)(hn:(tLinks Tz).length≤1000)(w:World)(hs:Sat (tbS tb ms Tz) w):Calls Tryz.prog 108 [.pointer (some ⟨tb,0,none⟩)].toArray w fun e w'=>∃y:V.OwnO×List Lk,(y.2.Perm (tLinks Tz)∧UpL y.2∧ownOk 5 y.2.length (y.2.flatMap lkC) y.1)∧e= .returned (ownV y.2.length y.1)∧Hp ⟨w,V.ids ((tbS tb ms Tz))⟩ (ownG 165 (y.2.flatMap lkC) y.1::tbS tb ms Tz) w':=by
 refine Cs_ (tbS tb ms Tz) Tryz.func108 rfl Tryz.ntmps108 hs<|pA_ 26 ?_
 refine Lv (La (tbC ms) (r:=[]) (hl:=by simp) (hs:=by rw[tbC_len,hT.1];exact Tryz.sizeOf275))<|pA_ 4 ?_
 refine V.CW.perm (sg':=ownG 165 ([].flatMap lkC) none::tbS tb ms Tz) ?_ (by simp[V.ownG_none])
 refine loopA (γ:=Nat×V.OwnO×List Lk) (fun k=>[(3,ownV k.2.2.length k.2.1),(14,.agg (tbC ms).toArray),(15,.int .i64 (k.1:Nat))]) (fun k=>ownG 165 (k.2.2.flatMap lkC) k.2.1::tbS tb ms Tz) (fun k=>k.1≤8∧k.2.2.Perm (tLinks (Tz.take k.1))∧ownOk 5 k.2.2.length (k.2.2.flatMap lkC) k.2.1) (fun k=>8-k.1) ((0,none,[])) ⟨Nat.zero_le _,by simp[tLinks],⟨rfl,rfl⟩⟩ fun k=>?_
 rintro⟨hk1,hk2,hk3⟩
 refine pA_ 6 ?_
 refine Cd_ rfl (fun h16=>?_) fun h16=>?_
 ·have hbk:k.1<8:=by omega
  obtain⟨m,hm⟩:∃m,ms[k.1]? =some m:=⟨ms[k.1]'(by rw[hT.1];omega),by simp⟩
  obtain⟨p,hp⟩:∃p,Tz[k.1]? =some p:=⟨Tz[k.1]'(by rw[hT.2];omega),by simp⟩
  have hsp:=hst p (List.mem_of_getElem? hp)
  have htk:=tLinks_take hp
  have htl:=tLinks_le (Tz:=Tz) (k.1+1)
  refine Sk<|Ps<|Sq<|Bk<|Sq<|Rg<|Lv (Val.indexArr (i:=k.1) rfl rfl Tryz.underlying275 Tryz.sizeOf274 Tryz.isAgg274 om_ (tbC_get hm))<|Lv Av<|Nl<|Ps<|Sq<|Rg<|Lv Mv<|Le (Eff.range (E:=me p.1) (c:=p.2) rfl Tryz.underlying274 (by repeat(first|exact InS.nth (tbM_at hm hp)|refine .there ?_))) fun b19 _=>Nl<|Ps<|Bk<|loopA (γ:=V.OwnO×List Lk×LE) (fun j=>[(3,ownV j.2.1.length j.1),(14,.agg (tbC ms).toArray),(15,.int .i64 (k.1:Nat)),(19,.pointer (some ⟨b19,0,none⟩))]) (fun j=>ownG 165 (j.2.1.flatMap lkC) j.1::[(b19,V.itO m p.2 (me j.2.2))]::tbS tb ms Tz) (fun j=>V.Vis (me p.1) (me j.2.2)∧j.2.1=k.2.2++j.2.2.map (·.2)∧ownOk 5 j.2.1.length (j.2.1.flatMap lkC) j.1) (fun j=>(me p.1).length-(me j.2.2).length) ((k.2.1,k.2.2,[])) ⟨V.Vis.nil _,by simp,hk3⟩ fun j=>?_
  rintro⟨hv,hjv,hj3⟩
  have hjl:j.2.1.length≤2000:=by
   have h1:=congrArg List.length hjv
   have h2:=hk2.length_eq
   have h3:=tLinks_le (Tz:=Tz) k.1
   have h4:=hv.le
   have h5:=congrArg List.length htk
   simp only[me,List.length_map,List.length_append] at h1 h4 h5
   omega
  refine Sq<|Rg<|Le (Eff.next (E:=me p.1) (D:=me j.2.2) rfl (by repeat(first|exact InS.nth (tbM_at hm hp)|refine .there ?_)) hsp (fun e=>up_)) fun oe he=>?_
  rcases oe with _|e
  ·dsimp only at he⊢
   refine pA_ 15 ?_
   exact roundA ((k.1+1,j.1,j.2.1)) ⟨by simp only;omega,by simp only;rw[htk,hjv];refine hk2.append ?_;have h8:=(hv.perm hsp.nd he).map fun e=>unW e.2.2;rw[me_un,me_un] at h8;exact h8,hj3⟩ (by simp only;omega)
  ·dsimp only at he⊢
   obtain⟨x,hx1,hx2⟩:=List.mem_map.1 (show e∈List.map _ p.1 from he.1)
   have hvl:=hv.lt he.1 he.2
   subst hx2
   refine Lv Ex<|Nl<|Ps<|Sq<|Ct<|Sk<|Ps<|Bk<|Sq<|Rg<|Lv (Val.entry rfl in_ (by repeat(first|exact InS.nth (tbM_at hm hp)|refine .there ?_)) he.1 hsp.nd)<|Lv Ex<|LW.re 23 (.agg (lkC x.2).toArray) rfl (by rfl)<|Le AA fun b7 _=>LeN StW fun _ _=>Nl<|Ps<|Rg<|Lv Mv<|Lv Lw<|Le (Eff.buildSlice (rfl) [_,_,_,_,_] Tryz.underlying159 Tryz.sizeOf165 (by exact Tryz.zeroValue165) rfl rfl rfl rfl (by rfl)) fun b26 _=>Le (Eff.appendAny (lkC x.2) (sz:=5) (bytes:=48) (z:= .agg #[.string ⟨#[]⟩,.int .u64 0,.int .u64 0,.int .i64 0,.int .i64 0]) (xs:=j.2.1.flatMap lkC) (m0:=j.2.1.length) (o:=j.1) (m:=1) (pk:=[ownG 165 (j.2.1.flatMap lkC) (j.1)]) rfl rfl Tryz.underlying159 kr_ rfl om_ pk_ (by simp) hj3 (by rfl) (fun hm0=>⟨b26,0,rfl,fun w hw=>V.range_of_block (o:=0) (cs:=lkC x.2) (r:=[]) (hw.own _ (show InS (b26,.cells (lkC x.2).toArray 165 (0,0)) _ from in_).mem) rfl⟩) (by rfl) om_ om_) fun o2 ho2=>Lv Av<|Nl<|Bn ?_
   have e1:(j.2.1++[x.2]).flatMap lkC=j.2.1.flatMap lkC++lkC x.2:=by simp
   have e2:(j.2.1++[x.2]).length=j.2.1.length+1:=by simp
   have e3:me (j.2.2++[x])=me j.2.2++[(x.1,byK x.2.key,lkW x.2)]:=me_app _ _
   rw[← e1,← e2,← e3]
   exact roundA ((o2,j.2.1++[x.2],j.2.2++[x])) ⟨by rw[me_app];exact hv.snoc he.1 he.2,by simp only;rw[hjv];simp,by simpa using ho2⟩ (by simp only[me_app,List.length_append];simp only[me,List.map_cons,List.map_nil,List.length_singleton] at hvl⊢;omega)
 ·refine pA_ 8 ?_
  refine Le (Cm_ (sortL_c k.2.1 k.2.2 hk3 (by have h2:=hk2.length_eq;have h3:=tLinks_le (Tz:=Tz) k.1;omega))) fun L2 hL2=>pA_ 9 ?_
  refine Rt1 fun w' hw=>?_
  have hk8:k.1=8:=by omega
  rw[hk8,List.take_of_length_le (by rw[hT.2];omega)] at hk2
  have hll:=hL2.1.length_eq
  refine⟨(k.2.1,L2),⟨hL2.1.trans hk2,hL2.2,⟨by rw[V.flatMap_len (k:=5) (fun _=>rfl)],?_⟩⟩,by rw[hll],?_⟩
  ·have h1:=hk3.2
   have h2:=hk3.1
   rw[V.flatMap_len (enc:=lkC) (k:=5) (fun _=>rfl) L2,hll]
   rw[h2] at h1
   exact h1
  ·exact hw.pick pk_
end
end G
end Go.Proofs.YteejleakfbnpcaaGreat
namespace Go.Proofs.YteejleakfbnpcaaGreat
open Go Go.RowKit V
set_option linter.unusedVariables false
set_option maxRecDepth 100000
set_option maxHeartbeats 1000000
namespace G
section
attribute [local irreducible] V.CW V.LW V.QW V.RW V.PQ V.Val V.Eff V.Qcall
open V (str byC ownV ownG ownS ownOk)
theorem places263:∀w,((Array.mapM (fun(f:Field)=>do pure (f.offset,← sizeOf f.type)) (Tryz.prog.fieldsOf 263):Sem (Array (Nat×Nat)))).run Tryz.prog w= .ok [(0,1),(1,1)].toArray w:=by
 intro w;kernel_rfl
instance:Und Tryz.prog 173 (dOf Tryz.underlying173):=⟨Tryz.underlying173⟩
instance:Siz Tryz.prog 173 (kOf Tryz.sizeOf173):=⟨Tryz.sizeOf173⟩
instance:AgF Tryz.prog 173:=⟨Tryz.isAgg173⟩
instance:Und Tryz.prog 174 (dOf Tryz.underlying174):=⟨Tryz.underlying174⟩
instance:Siz Tryz.prog 174 (kOf Tryz.sizeOf174):=⟨Tryz.sizeOf174⟩
instance:AgF Tryz.prog 174:=⟨Tryz.isAgg174⟩
instance:Und Tryz.prog 176 (dOf Tryz.underlying176):=⟨Tryz.underlying176⟩
instance:Siz Tryz.prog 176 (kOf Tryz.sizeOf176):=⟨Tryz.sizeOf176⟩
instance:AgT Tryz.prog 176:=⟨Tryz.isAgg176⟩
instance:Zer Tryz.prog 176 (zOf Tryz.zeroValue176):=⟨Tryz.zeroValue176⟩
instance:Siz Tryz.prog 263 (kOf Tryz.sizeOf263):=⟨Tryz.sizeOf263⟩
instance:Zer Tryz.prog 263 (zOf Tryz.zeroValue263):=⟨Tryz.zeroValue263⟩
instance:Plc Tryz.prog 263 (fOf Tryz.underlying263) (lOf (P:=Tryz.prog) places263):=⟨places263,Tryz.underlying263⟩
instance:Cal Tryz.prog 107:=⟨Tryz.call107⟩
instance:Cal Tryz.prog 108:=⟨Tryz.call108⟩
instance:Cal Tryz.prog 111:=⟨Tryz.call111⟩
instance:Cal Tryz.prog 112:=⟨Tryz.call112⟩
instance:Cal Tryz.prog 166:=⟨Tryz.call166⟩
instance:Cal Tryz.prog 206:=⟨Tryz.call206⟩
instance:Cal Tryz.prog 240:=⟨Tryz.call240⟩
theorem atable_g (x:ArR)(s:ArS)(w:World)(ha:w.heap[x.a]? =some (.cells (arC x s).toArray 256 (0,0))):Calls Tryz.prog 107 [.pointer (some ⟨x.a,0,none⟩)].toArray w fun e w'=>e= .returned (.pointer (some ⟨x.tb,0,none⟩))∧Below w.heap.size w w':=by
 refine Cb_ Tryz.func107 rfl Tryz.ntmps107<|pA_ 20 ?_
 refine Lv (Val.loadO rfl Tryz.isAgg188 (V.lt_of_some ha) (by simp[ids]) (V.cell_of_block ha rfl))<|pA_ 5 ?_
 exact fb_
theorem aline_g (x:ArR)(s:ArS)(w:World)(ha:w.heap[x.a]? =some (.cells (arC x s).toArray 256 (0,0))):Calls Tryz.prog 111 [.pointer (some ⟨x.a,0,none⟩)].toArray w fun e w'=>e= .returned (.pointer (some ⟨x.fb,0,none⟩))∧Below w.heap.size w w':=by
 refine Cb_ Tryz.func111 rfl Tryz.ntmps111<|pA_ 20 ?_
 refine Lv (Val.loadO rfl Tryz.isAgg195 (V.lt_of_some ha) (by simp[ids]) (V.cell_of_block ha rfl))<|pA_ 5 ?_
 exact fb_
theorem apool_g (x:ArR)(s:ArS)(w:World)(ha:w.heap[x.a]? =some (.cells (arC x s).toArray 256 (0,0))):Calls Tryz.prog 171 [.pointer (some ⟨x.a,0,none⟩)].toArray w fun e w'=>e= .returned (.pointer (some ⟨x.pb,0,none⟩))∧Below w.heap.size w w':=by
 refine Cb_ Tryz.func171 rfl Tryz.ntmps171<|pA_ 20 ?_
 refine Lv (Val.loadO rfl Tryz.isAgg252 (V.lt_of_some ha) (by simp[ids]) (V.cell_of_block ha rfl))<|pA_ 5 ?_
 exact fb_
theorem adev_g (x:ArR)(s:ArS)(db:Nat)(w:World)(ha:w.heap[x.a]? =some (.cells (arC x s).toArray 256 (0,0)))(hd:w.heap[x.dv]? =some (.cells (avC db s).toArray 335 (0,0))):Calls Tryz.prog 240 [.pointer (some ⟨x.a,0,none⟩)].toArray w fun e w'=>e= .returned (.pointer (some ⟨db,0,none⟩))∧Below w.heap.size w w':=by
 refine Cb_ Tryz.func240 rfl Tryz.ntmps240<|pA_ 14 ?_
 refine Lv (Val.loadO rfl Tryz.isAgg251 (V.lt_of_some ha) (by simp[ids]) (V.cell_of_block ha rfl))<|pA_ 12 ?_
 refine Lv (Val.loadO rfl Tryz.isAgg251 (V.lt_of_some ha) (by simp[ids]) (V.cell_of_block ha rfl))<|Lv Nz<|Lv (Fa 0 28)<|Lv (Val.loadO rfl Tryz.isAgg28 (V.lt_of_some hd) (by simp[ids]) (V.cell_of_block hd rfl))<|pA_ 5 ?_
 exact fb_
theorem abytes_g (x:ArR)(s:ArS)(xd:DvR)(D:List Ce)(k:Cnt)(line c:Int)(hl: -1000000≤line∧line≤1000000):Mo Tryz.prog 206 [.pointer (some ⟨x.a,0,none⟩),.int .i64 line,.int .i64 c] ([(x.a,.cells (arC x s).toArray 256 (0,0))]::[(x.dv,.cells (avC xd.db s).toArray 335 (0,0))]::dvS xd D k) (fun o:V.OwnO=>ownOk 1 (linesL D line (spanF c)).length (byC (linesL D line (spanF c))) o) (fun o=>ownV (linesL D line (spanF c)).length o) (fun o=>ownG 5 (byC (linesL D line (spanF c))) o::([(x.a,.cells (arC x s).toArray 256 (0,0))]::[(x.dv,.cells (avC xd.db s).toArray 335 (0,0))]::dvS xd D k)):=by
 intro w hs
 have hsp8:=span_le c
 refine Ca_ Tryz.func206 rfl Tryz.ntmps206 hs<|pA_ 14 ?_
 refine Le (Cz_ (span_c c)) fun _ _=>pA_ 4 ?_
 refine V.CW.perm (sg':=ownG 5 (byC (linesL D line 0)) none::([(x.a,.cells (arC x s).toArray 256 (0,0))]::[(x.dv,.cells (avC xd.db s).toArray 335 (0,0))]::dvS xd D k)) ?_ (.refl _)
 refine loopA (γ:=Nat×V.OwnO) (fun j=>[(0,.pointer (some ⟨x.a,0,none⟩)),(1,.int .i64 line),(7,ownV (linesL D line j.1).length j.2),(12,.int .i64 (spanF c:Nat)),(13,.int .i64 (j.1:Nat))]) (fun j=>ownG 5 (byC (linesL D line j.1)) j.2::([(x.a,.cells (arC x s).toArray 256 (0,0))]::[(x.dv,.cells (avC xd.db s).toArray 335 (0,0))]::dvS xd D k)) (fun j=>j.1≤spanF c∧ownOk 1 (linesL D line j.1).length (byC (linesL D line j.1)) j.2) (fun j=>spanF c-j.1) ((0,none)) ⟨Nat.zero_le _,rfl,rfl⟩ fun j=>?_
 rintro⟨hj1,hj2⟩
 have hjl:=linesL_le D line j.1
 refine pA_ 6 ?_
 refine Cd_ rfl (fun h14=>?_) fun h14=>?_
 ·refine pA_ 13 ?_
  refine Le (CV fun w hw=>adev_g x s xd.db w hw.at hw.at) fun _ _=>pA_ 3 ?_
  refine Le (CM [] fun w hw hs0=>load_g xd D k (line+(j.1:Nat)) w (hw.sat.pick (ss:=dvS xd D k) pk_)) fun o2 ho2=>?_
  obtain⟨p2,c2,hv2,hc2,hsrc,hsl2⟩:=own_src ho2
  have hn64:=nowL_le D (line+(j.1:Nat))
  refine Lv Mv<|Lv Ex<|LW.re 23 (.slice p2 (nowL D (line+(j.1:Nat))).length c2) rfl hv2<|pA_ 8 ?_
  refine Le (Eff.appendAny (byC ((nowL D (line+(j.1:Nat))))) (sz:=1) (bytes:=1) (z:= .int .u8 0) (xs:=byC ((linesL D line j.1))) (m0:=(linesL D line j.1).length) (o:=j.2) (m:=(nowL D (line+(j.1:Nat))).length) (pk:=[ownG 5 (byC ((linesL D line j.1))) (j.2)]) rfl rfl Tryz.underlying54 kr_ rfl om_ pk_ (by simp) hj2 (by rw[V.byC_len];omega) (fun hm0=>by obtain⟨bq,hbq,hrq⟩:=hsrc hm0;exact⟨bq,0,hbq,fun w hw=>hrq hw pk_⟩) (V.byC_one _) om_ om_) fun o3 ho3=>?_
  rw[← V.byC_append,← linesL_succ] at*
  refine pA_ 8 ?_
  refine PQ.round ((j.1+1,o3)) ⟨by simp only;omega,by simp only;rw[show(linesL D line (j.1+1)).length=(linesL D line j.1).length+(nowL D (line+(j.1:Nat))).length by rw[linesL_succ,List.length_append]];exact ho3⟩ (by simp only;omega) (by exact⟨rfl,rfl,congrArg (fun z=>some (ownV z o3)) (by simp only;rw[linesL_succ,List.length_append]),rfl,rfl,trivial⟩) pk_
 ·have hj9:j.1=spanF c:=by omega
  obtain⟨j1,o⟩:=j
  simp only at hj9 hj2
  subst hj9
  refine pA_ 13 ?_
  exact fi_ o hj2
def valB (D:List Ce)(l:Lk):Blk:=(decF (linesL D l.line (spanF l.cls))).getD blk0
def valK (D:List Ce)(l:Lk)(kind:Int):Bool:=(decF (linesL D l.line (spanF l.cls))).isSome&&decide ((valB D l).kind=kind)&&decide ((valB D l).id=l.id)&&decide ((valB D l).ver=l.ver)&&decide ((valB D l).key=l.key)
theorem avalue_g (x:ArR)(s:ArS)(xd:DvR)(D:List Ce)(k:Cnt)(l:Lk)(kind:Int)(hl: -1000000≤l.line∧l.line≤1000000):Rx Tryz.prog 166 [.pointer (some ⟨x.a,0,none⟩),.agg (lkC l).toArray,.int .i64 kind] ([(x.a,.cells (arC x s).toArray 256 (0,0))]::[(x.dv,.cells (avC xd.db s).toArray 335 (0,0))]::dvS xd D k) (.tuple #[str (valB D l).val,.bool (valK D l kind)]):=by
 intro w hs
 have hsp8:=span_le l.cls
 have hll8:=linesL_le D l.line (spanF l.cls)
 refine Ca_ Tryz.func166 rfl Tryz.ntmps166 hs<|Sq<|Rg<|Le XA fun b4 _=>pA_ 8 ?_
 refine Lv (Ld (v:= .int .i64 l.line))<|Lv (Fa 4 3)<|Lv (Ld (v:= .int .i64 l.cls))<|Le (Cm_ (abytes_g x s xd D k l.line l.cls hl)) fun o ho=>?_
 obtain⟨pd,cd,hvd,hcd,_,hsd⟩:=own_src ho
 refine LW.re 16 (.slice pd (linesL D l.line (spanF l.cls)).length cd) rfl hvd<|Le (CV fun w hw=>decode_c (linesL D l.line (spanF l.cls)) pd cd om_ hcd w (hsd hw pk_)) fun _ _=>Lv Mv<|Lv Ex<|LW.re 18 (.agg (blC (valB D l)).toArray) rfl (by rfl)<|Lv Ex<|Le AA fun b8 _=>LeN StW fun _ _=>pA_ 4 ?_
 refine Qt<|Qv (Fa 6 9)<|Qv (Ld (v:=str (valB D l).val))<|Qv Mv<|Qv Mv ?_
 refine QW.split (d:=23) rfl (fun h23=>?_) (fun h23=>?_)
 ·replace h23:=bT h23
  refine Qv (Fa 1 3)<|Qv (Ld (v:= .int .i64 (valB D l).kind))<|pA_ 4 ?_
  refine QW.split (d:=29) rfl (fun h29=>?_) (fun h29=>?_)
  ·replace h29:=bT h29
   refine Qv (Fa 2 22)<|Qv (Ld (v:= .int .u64 (valB D l).id))<|Qv (Fa 1 22)<|Qv (Ld (v:= .int .u64 l.id))<|pA_ 3 ?_
   refine QW.split (d:=36) rfl (fun h36=>?_) (fun h36=>?_)
   ·replace h36:=bT h36
    refine Qv (Fa 3 22)<|Qv (Ld (v:= .int .u64 (valB D l).ver))<|Qv (Fa 2 22)<|Qv (Ld (v:= .int .u64 l.ver))<|pA_ 3 ?_
    refine QW.split (d:=43) rfl (fun h43=>?_) (fun h43=>?_)
    ·replace h43:=bT h43
     refine Qv (Fa 5 9)<|Qv (Ld (v:=str (valB D l).key))<|Qv (Fa 0 9)<|Qv (Ld (v:=str l.key))<|Qv ES<|pA_ 7 ?_
     intro w' hw;exact⟨by unfold valK;simp_all,hw.ro pk_ hs⟩
    ·replace h43:=bF h43
     refine pA_ 12 ?_
     intro w' hw;exact⟨by unfold valK;simp_all,hw.ro pk_ hs⟩
   ·replace h36:=bF h36
    refine pA_ 19 ?_
    intro w' hw;exact⟨by unfold valK;simp_all,hw.ro pk_ hs⟩
  ·replace h29:=bF h29
   refine pA_ 26 ?_
   intro w' hw;exact⟨by unfold valK;simp_all,hw.ro pk_ hs⟩
 ·replace h23:=bF h23
  refine pA_ 32 ?_
  intro w' hw;exact⟨by unfold valK;simp_all,hw.ro pk_ hs⟩
def pairsOf (D:List Ce)(L:List Lk):List (List UInt8×List UInt8):=L.filterMap fun l=>if valK D l 1=true then some (l.key,(valB D l).val) else none
def textsOf (D:List Ce)(L:List Lk):List (List UInt8):=L.filterMap fun l=>if valK D l 2=true then some (valB D l).val else none
def prC (p:List UInt8×List UInt8):List Value:=[str p.1,str p.2]
def txC (p:List UInt8):List Value:=[str p]
theorem prC_len (p:List UInt8×List UInt8):(prC p).length=2:=rfl
theorem txC_len (p:List UInt8):(txC p).length=1:=rfl
theorem fm_take {α β:Type}{f:α→Option β}{L:List α}{i:Nat}{x:α}(h:L[i]? =some x):(L.take (i+1)).filterMap f=(L.take i).filterMap f++(f x).toList:=by
 have e:List.filterMap f [x]=(f x).toList:=by cases h8:f x<;>simp[h8]
 rw[List.take_add_one,h,Option.toList_some,List.filterMap_append,e]
theorem fm_le {α β:Type}{f:α→Option β}(L:List α)(i:Nat):((L.take i).filterMap f).length≤L.length:=by
 have h1:=List.length_filterMap_le f (L.take i)
 rw[List.length_take] at h1
 omega
theorem nilSeg {P:_}{n:_}{B:_}{Q:_}{e:_}{ks:_}{sg:V.Sg}(h:V.CW P n B Q e ks ([]::sg)):V.CW P n B Q e ks sg:=V.CW.perm h (.refl _)
theorem ashelf_g (x:ArR)(s:ArS)(xd:DvR)(D:List Ce)(k:Cnt)(th:Nat)(hA:ArOk th D.length x s)(hst:tStp s.Tz)(hn:(tLinks s.Tz).length≤1000)(hq:(rgQ s.rg).length≤1000)(hln:(∀l∈tLinks s.Tz,-1000000≤l.line∧l.line≤1000000)∧(∀l∈rgQ s.rg,-1000000≤l.line∧l.line≤1000000))(w:World)(hs:Sat (arS x s xd.db++dvS xd D k) w):Calls Tryz.prog 97 [.pointer (some ⟨x.a,0,none⟩)].toArray w fun e w'=>∃y:List Lk×V.OwnO×V.OwnO,((y.1.Perm (tLinks s.Tz)∧UpL y.1)∧ownOk 2 (pairsOf D y.1).length ((pairsOf D y.1).flatMap prC) y.2.1∧ownOk 1 (textsOf D (rgQ s.rg)).length ((textsOf D (rgQ s.rg)).flatMap txC) y.2.2)∧e= .returned (.agg #[ownV (pairsOf D y.1).length y.2.1,ownV (textsOf D (rgQ s.rg)).length y.2.2])∧Hp ⟨w,V.ids ((arS x s xd.db++dvS xd D k))⟩ (ownG 263 ((pairsOf D y.1).flatMap prC) y.2.1::ownG 9 ((textsOf D (rgQ s.rg)).flatMap txC) y.2.2::arS x s xd.db++dvS xd D k) w':=by
 refine Cs_ (arS x s xd.db++dvS xd D k) Tryz.func97 rfl Tryz.ntmps97 hs<|Sq<|Rg<|Le AA fun b2 _=>pA_ 4 ?_
 refine Le AA fun b3 _=>pA_ 6 ?_
 refine Le (CV fun w hw=>atable_g x s w hw.at) fun _ _=>Le (CM (tbS x.tb x.ms s.Tz) fun w hw hs0=>all_g x.tb x.ms s.Tz hA.tb hst hn w hs0) fun y hy=>?_
 obtain⟨oL,L⟩:=y
 have hLp:L.Perm (tLinks s.Tz)∧UpL L∧ownOk 5 L.length (L.flatMap lkC) oL:=hy
 clear hy
 have hLl:L.length=(tLinks s.Tz).length:=hLp.1.length_eq
 obtain⟨pL,cL,hvL,_,_⟩:=own_slg (e:=165) lkC_len L oL hLp.2.2
 refine LW.re 14 (.slice pL L.length cL) rfl hvL<|pA_ 5 ?_
 refine nilSeg<|loopA (γ:=Nat×V.OwnO) (fun i=>[(0,.pointer (some ⟨x.a,0,none⟩)),(2,.pointer (some ⟨b2,0,none⟩)),(3,.pointer (some ⟨b3,0,none⟩)),(14,.slice pL L.length cL),(15,.int .i64 (L.length:Nat)),(16,.int .i64 (i.1:Nat))]) (fun i=>[(b3,.cells [ownV (pairsOf D (L.take i.1)).length i.2,ownV ([]:List (List UInt8)).length none].toArray 176 (0,0))]::ownG 263 ((pairsOf D (L.take i.1)).flatMap prC) i.2::[(b2,.cells [.slice none 0 0,.slice none 0 0].toArray 176 (0,0))]::ownG 165 (L.flatMap lkC) oL::(arS x s xd.db++dvS xd D k)) (fun i=>i.1≤L.length∧ownOk 2 (pairsOf D (L.take i.1)).length ((pairsOf D (L.take i.1)).flatMap prC) i.2) (fun i=>L.length-i.1) ((0,none)) ⟨Nat.zero_le _,rfl,rfl⟩ fun i=>?_
 rintro⟨hi1,hi2⟩
 refine pA_ 6 ?_
 refine Cd_ rfl (fun h17=>?_) fun h17=>?_
 ·have hik:i.1<L.length:=by omega
  obtain⟨l,hl⟩:∃l,L[i.1]? =some l:=⟨L[i.1]'hik,by simp⟩
  have hll:=hln.1 l (hLp.1.subset (List.mem_of_getElem? hl))
  obtain⟨g,rest,cap,hoL⟩:∃g r2 c,oL=some (g,r2,c):=by
   rcases oL with _|⟨g,r2,c⟩
   ·exact absurd hLp.2.2.2 om_
   ·exact⟨g,r2,c,rfl⟩
  subst hoL
  have hpL:pL=some ⟨g,0,none⟩:=by
   have h8:ownV L.length (some (g,rest,cap))= .slice (some ⟨g,0,none⟩) L.length cap:=rfl
   rw[h8] at hvL
   injection hvL with h9
   exact h9.symm
  subst hpL
  obtain⟨r9,hr9⟩:=V.drop_flatMap lkC_len L i.1 l hl
  have hr8:(L.flatMap lkC++rest).drop (i.1*5)=lkC l++(r9++rest):=by
   rw[List.drop_append_of_le_length (by rw[V.flatMap_len lkC_len];omega),hr9,List.append_assoc]
  refine pA_ 6 ?_
  refine Lv (Val.indexAddrN (i:=i.1) rfl rfl Tryz.underlying159 Tryz.sizeOf165 om_)<|LW.re 18 (.pointer (some ⟨g,i.1*5,none⟩)) rfl (by simp)<|Lv (La (lkC l) (hl:=hr8))<|Le AA fun b5 _=>LeN StW fun _ _=>pA_ 5 ?_
  refine Lv (Lw (l:=lkC l))<|Le (Cr_ (avalue_g x s xd D k l 1 hll)) fun _ _=>pA_ 12 ?_
  refine Cd_ rfl (fun h26=>?_) fun h26=>?_
  ·have h26:valK D l 1=true:=h26
   have hst2:pairsOf D (L.take (i.1+1))=(pairsOf D (L.take i.1))++[(l.key,(valB D l).val)]:=by unfold pairsOf;rw[fm_take hl,if_pos h26];rfl
   have hle:=fm_le (f:=fun l=>if valK D l 1=true then some (l.key,(valB D l).val) else none) L i.1
   replace hle:(pairsOf D (L.take i.1)).length≤L.length:=hle
   refine Rg<|Lv (Fa 0 173)<|Lv (Ld (v:=ownV (pairsOf D (L.take i.1)).length i.2))<|Lv (Fa 0 9)<|Lv (Ld (v:=str l.key))<|Lv Mv<|Lv (Bd (prC (l.key,(valB D l).val)))<|Le (Eff.buildSlice (rfl) [_,_] Tryz.underlying173 Tryz.sizeOf263 (by exact Tryz.zeroValue263) rfl rfl rfl rfl (by rfl)) fun b33 _=>Le (Eff.appendAny (prC (l.key,(valB D l).val)) (sz:=2) (bytes:=32) (z:= .agg #[.string ⟨#[]⟩,.string ⟨#[]⟩]) (xs:=(pairsOf D (L.take i.1)).flatMap prC) (m0:=(pairsOf D (L.take i.1)).length) (o:=i.2) (m:=1) (pk:=[ownG 263 ((pairsOf D (L.take i.1)).flatMap prC) (i.2)]) rfl rfl Tryz.underlying173 kr_ rfl om_ pk_ (by simp) hi2 (by rfl) (fun hm0=>⟨b33,0,rfl,fun w hw=>V.range_of_block (o:=0) (cs:=prC (l.key,(valB D l).val)) (r:=[]) (hw.own _ (show InS (b33,.cells (prC (l.key,(valB D l).val)).toArray 263 (0,0)) _ from in_).mem) rfl⟩) (by rfl) om_ om_) fun o2 ho2=>Lv (Fa 0 173)<|LeN (Eff.store (l':=[ownV ((pairsOf D (L.take i.1)).length+1) o2,ownV ([]:List (List UInt8)).length none]) rfl rfl (V.ownV_one _ _) up_ (by rfl) (by rfl) Tryz.sizeOf173) fun _ _=>Nl<|Bn<|Ps<|Rg<|Lv Ar<|Lv Mv<|Nl ?_
   rw[← show(pairsOf D (L.take (i.1+1))).flatMap prC=(pairsOf D (L.take i.1)).flatMap prC++prC (l.key,(valB D l).val) by rw[hst2,List.flatMap_append];rfl]
   rw[← show(pairsOf D (L.take (i.1+1))).length=(pairsOf D (L.take i.1)).length+1 by rw[hst2,List.length_append];rfl]
   exact roundA ((i.1+1,o2)) ⟨by simp only;omega,by simp only;rw[hst2,List.flatMap_append,List.length_append];exact ho2⟩ (by simp only;omega)
  ·have h26:valK D l 1=false:=h26
   have hst2:pairsOf D (L.take (i.1+1))=(pairsOf D (L.take i.1)):=by unfold pairsOf;rw[fm_take hl,if_neg (by rw[h26];decide)];simp
   refine pA_ 7 ?_
   rw[← hst2]
   exact roundA ((i.1+1,i.2)) ⟨by simp only;omega,by simp only;rw[hst2];exact hi2⟩ (by simp only;omega)
 ·obtain⟨i1,po⟩:=i
  have hi9:i1=L.length:=by simp only at hi1 h17;omega
  subst hi9
  replace hi2:ownOk 2 (pairsOf D L).length ((pairsOf D L).flatMap prC) po:=by have h8:=hi2;simp only[List.take_length] at h8;exact h8
  have hi0:=hi2
  simp only[List.take_length]
  refine pA_ 9 ?_
  refine Le (CV fun w hw=>aline_g x s w hw.at) fun _ _=>Le (CM (rgS 288 x.fb s.rg s.ro) fun w hw hs0=>lall_c x.fb s.rg s.ro hA.rg w hs0) fun oQ hQ=>?_
  obtain⟨pQ,cQ,hvQ,_,_⟩:=own_slg (e:=165) lkC_len (rgQ s.rg) oQ hQ
  refine LW.re 39 (.slice pQ (rgQ s.rg).length cQ) rfl hvQ<|pA_ 5 ?_
  refine nilSeg<|loopA (γ:=Nat×V.OwnO) (fun i=>[(0,.pointer (some ⟨x.a,0,none⟩)),(2,.pointer (some ⟨b2,0,none⟩)),(3,.pointer (some ⟨b3,0,none⟩)),(39,.slice pQ (rgQ s.rg).length cQ),(40,.int .i64 ((rgQ s.rg).length:Nat)),(41,.int .i64 (i.1:Nat))]) (fun i=>[(b3,.cells [ownV (pairsOf D L).length po,ownV (textsOf D ((rgQ s.rg).take i.1)).length i.2].toArray 176 (0,0))]::ownG 9 ((textsOf D ((rgQ s.rg).take i.1)).flatMap txC) i.2::ownG 263 ((pairsOf D L).flatMap prC) po::[(b2,.cells [.slice none 0 0,.slice none 0 0].toArray 176 (0,0))]::ownG 165 ((rgQ s.rg).flatMap lkC) oQ::(arS x s xd.db++dvS xd D k)) (fun i=>i.1≤(rgQ s.rg).length∧ownOk 1 (textsOf D ((rgQ s.rg).take i.1)).length ((textsOf D ((rgQ s.rg).take i.1)).flatMap txC) i.2) (fun i=>(rgQ s.rg).length-i.1) ((0,none)) ⟨Nat.zero_le _,rfl,rfl⟩ fun i=>?_
  rintro⟨hi1,hi2⟩
  refine pA_ 6 ?_
  refine Cd_ rfl (fun h42=>?_) fun h42=>?_
  ·have hik:i.1<(rgQ s.rg).length:=by omega
   obtain⟨l,hl⟩:∃l,(rgQ s.rg)[i.1]? =some l:=⟨(rgQ s.rg)[i.1]'hik,by simp⟩
   have hll:=hln.2 l (List.mem_of_getElem? hl)
   obtain⟨g,rest,cap,hoQ⟩:∃g r2 c,oQ=some (g,r2,c):=by
    rcases oQ with _|⟨g,r2,c⟩
    ·exact absurd hQ.2 om_
    ·exact⟨g,r2,c,rfl⟩
   subst hoQ
   have hpQ:pQ=some ⟨g,0,none⟩:=by
    have h8:ownV (rgQ s.rg).length (some (g,rest,cap))= .slice (some ⟨g,0,none⟩) (rgQ s.rg).length cap:=rfl
    rw[h8] at hvQ
    injection hvQ with h9
    exact h9.symm
   subst hpQ
   obtain⟨r9,hr9⟩:=V.drop_flatMap lkC_len (rgQ s.rg) i.1 l hl
   have hr8:((rgQ s.rg).flatMap lkC++rest).drop (i.1*5)=lkC l++(r9++rest):=by
    rw[List.drop_append_of_le_length (by rw[V.flatMap_len lkC_len];omega),hr9,List.append_assoc]
   refine pA_ 6 ?_
   refine Lv (Val.indexAddrN (i:=i.1) rfl rfl Tryz.underlying159 Tryz.sizeOf165 om_)<|LW.re 43 (.pointer (some ⟨g,i.1*5,none⟩)) rfl (by simp)<|Lv (La (lkC l) (hl:=hr8))<|Le AA fun b9 _=>LeN StW fun _ _=>pA_ 5 ?_
   refine Lv (Lw (l:=lkC l))<|Le (Cr_ (avalue_g x s xd D k l 2 hll)) fun _ _=>pA_ 12 ?_
   refine Cd_ rfl (fun h51=>?_) fun h51=>?_
   ·have h51:valK D l 2=true:=h51
    have hst2:textsOf D ((rgQ s.rg).take (i.1+1))=(textsOf D ((rgQ s.rg).take i.1))++[(valB D l).val]:=by unfold textsOf;rw[fm_take hl,if_pos h51];rfl
    have hle:=fm_le (f:=fun l=>if valK D l 2=true then some (valB D l).val else none) (rgQ s.rg) i.1
    replace hle:(textsOf D ((rgQ s.rg).take i.1)).length≤(rgQ s.rg).length:=hle
    refine Rg<|Lv (Fa 1 174)<|Lv (Ld (v:=ownV (textsOf D ((rgQ s.rg).take i.1)).length i.2))<|Lv Mv<|Le (Eff.buildSlice (rfl) [_] Tryz.underlying174 Tryz.sizeOf9 (by exact Tryz.zeroValue9) rfl rfl rfl rfl (by rfl)) fun b55 _=>Le (Eff.appendAny (txC (valB D l).val) (sz:=1) (bytes:=16) (z:= .string ⟨#[]⟩) (xs:=(textsOf D ((rgQ s.rg).take i.1)).flatMap txC) (m0:=(textsOf D ((rgQ s.rg).take i.1)).length) (o:=i.2) (m:=1) (pk:=[ownG 9 ((textsOf D ((rgQ s.rg).take i.1)).flatMap txC) (i.2)]) rfl rfl Tryz.underlying174 kr_ rfl om_ pk_ (by simp) hi2 (by rfl) (fun hm0=>⟨b55,0,rfl,fun w hw=>V.range_of_block (o:=0) (cs:=txC (valB D l).val) (r:=[]) (hw.own _ (show InS (b55,.cells (txC (valB D l).val).toArray 9 (0,0)) _ from in_).mem) rfl⟩) (by rfl) om_ om_) fun o2 ho2=>Lv (Fa 1 174)<|LeN (Eff.store (l':=[ownV (pairsOf D L).length po,ownV ((textsOf D ((rgQ s.rg).take i.1)).length+1) o2]) rfl rfl (V.ownV_one _ _) up_ (by rfl) (by rfl) Tryz.sizeOf174) fun _ _=>Nl<|Bn<|Ps<|Rg<|Lv Ar<|Lv Mv<|Nl ?_
    rw[← show(textsOf D ((rgQ s.rg).take (i.1+1))).flatMap txC=(textsOf D ((rgQ s.rg).take i.1)).flatMap txC++txC (valB D l).val by rw[hst2,List.flatMap_append];rfl]
    rw[← show(textsOf D ((rgQ s.rg).take (i.1+1))).length=(textsOf D ((rgQ s.rg).take i.1)).length+1 by rw[hst2,List.length_append];rfl]
    exact roundA ((i.1+1,o2)) ⟨by simp only;omega,by simp only;rw[hst2,List.flatMap_append,List.length_append];exact ho2⟩ (by simp only;omega)
   ·have h51:valK D l 2=false:=h51
    have hst2:textsOf D ((rgQ s.rg).take (i.1+1))=(textsOf D ((rgQ s.rg).take i.1)):=by unfold textsOf;rw[fm_take hl,if_neg (by rw[h51];decide)];simp
    refine pA_ 7 ?_
    rw[← hst2]
    exact roundA ((i.1+1,i.2)) ⟨by simp only;omega,by simp only;rw[hst2];exact hi2⟩ (by simp only;omega)
  ·obtain⟨i1,qo⟩:=i
   have hi9:i1=(rgQ s.rg).length:=by simp only at hi1 h42;omega
   subst hi9
   replace hi2:ownOk 1 (textsOf D (rgQ s.rg)).length ((textsOf D (rgQ s.rg)).flatMap txC) qo:=by have h8:=hi2;simp only[List.take_length] at h8;exact h8
   simp only[List.take_length]
   refine Xt<|Te<|Te<|Bh<|Ps<|Sq<|Rg<|Lv (Lw (l:=[ownV (pairsOf D L).length po,ownV (textsOf D (rgQ s.rg)).length qo]))<|LeN (StW (cs:=[ownV (pairsOf D L).length po,ownV (textsOf D (rgQ s.rg)).length qo]) (h1:=by simp[V.ownV_one])) fun _ _=>Nl<|Ps<|Rt<|PQ.retC (l:=[ownV (pairsOf D L).length po,ownV (textsOf D (rgQ s.rg)).length qo]) rfl rfl in_ Tryz.isAgg176 (by exact Tryz.sizeOf176) ?_
   exact fi_ (L,po,qo) ⟨⟨hLp.1,hLp.2.1⟩,hi0,hi2⟩
end
end G
end Go.Proofs.YteejleakfbnpcaaGreat
namespace Go.Proofs.YteejleakfbnpcaaGreat.V
open Go Go.RowKit
set_option linter.unusedVariables false
section
variable {P:Program}{n:Nat}{B:Base}{ks:Ks}{sg:Sg}{d:Option Tmp}{ty:TypeId}{pos:String}{aft:Array Edge}{g:Option (Nat×Bool)}
inductive SelfF (P:Program):Nat→List Field→List Value→Prop
 |nil {o:Nat}:SelfF P o [] []
 |int {o:Nat} {f:Field} {fs:List Field} {k k':IntKind} {i:Int} {l:List Value} (hn:(f.name== "_")=false) (ho:f.offset=o) (ha:∀w,(isAgg f.type).run P w= .ok false w) (hu:P.underlying f.type=some (.int k'))
  (h:SelfF P (o+1) fs l):SelfF P o (f::fs) (.int k i::l)
 |bool {o:Nat} {f:Field} {fs:List Field} {i:Bool} {l:List Value} (hn:(f.name== "_")=false) (ho:f.offset=o) (ha:∀w,(isAgg f.type).run P w= .ok false w) (hu:P.underlying f.type=some .bool)
  (h:SelfF P (o+1) fs l):SelfF P o (f::fs) (.bool i::l)
 |agg {o sz:Nat} {f:Field} {fs:List Field} {cs l:List Value} {gs:Array Field} {r:Bool} (hn:(f.name== "_")=false) (ho:f.offset=o) (ha:∀w,(isAgg f.type).run P w= .ok true w) (hz:∀w,(sizeOf f.type).run P w= .ok sz w) (hc:cs.length=sz)
  (hu:P.underlying f.type=some (.struct gs)) (hp:P.stoodInHeld f.type=false) (hi:EqF P 0 gs.toList cs cs r) (hr:r=true) (h:SelfF P (o+sz) fs l):SelfF P o (f::fs) (cs++l)
theorem run_part_agg {t:TypeId}{xs:Array Value}{o sz:Nat}{cs l:List Value}(ha:∀w,(isAgg t).run P w= .ok true w)(hz:∀w,(sizeOf t).run P w= .ok sz w)(hc:cs.length=sz)(h:xs.toList.drop o=cs++l)(w:World):(part t xs o).run P w= .ok (.agg cs.toArray) w:=by
 have e:xs.extract o (o+sz)=cs.toArray:=by
  apply Array.ext'
  rw[Array.toList_extract]
  simp only[List.extract]
  rw[h,Nat.add_sub_cancel_left,← hc]
  simp
 simp[part,Sem.run_bind,ha,hz,e]
theorem run_selfFields {xs:Array Value}(dd:Nat)(w:World){o:Nat}{fs:List Field}{l:List Value}(h:SelfF P o fs l):xs.toList.drop o=l→(Op.eqFields (dd+2) xs xs fs).run P w= .ok true w:=by
 induction h with
 |nil=>intro _;rfl
 |int hn ho ha hu h ih=>
  intro hx
  subst ho
  have hn':=by simpa using hn
  simp only[Op.eqFields,hn',ne_eq,not_false_eq_true,if_true,Sem.run_bind,run_part_cell ha hx,Result.andThen_ok,run_equalIn_int w (dd+1) _ _ _ _ _ hu,Sem.run_ite]
  simp[ih (drop_tail hx)]
 |bool hn ho ha hu h ih=>
  intro hx
  subst ho
  have hn':=by simpa using hn
  simp only[Op.eqFields,hn',ne_eq,not_false_eq_true,if_true,Sem.run_bind,run_part_cell ha hx,Result.andThen_ok,run_equalIn_bool' w (dd+1) _ _ _ hu,Sem.run_ite]
  simp[ih (drop_tail hx)]
 | @agg o sz f fs cs l gs r hn ho ha hz hc hu hp hi hr h ih=>
  intro hx
  subst ho
  have hn':=by simpa using hn
  have hf:P.fieldsOf f.type=gs:=by simp[Program.fieldsOf,hu]
  have he:(Op.equalIn (dd+2) f.type (.agg cs.toArray) (.agg cs.toArray)).run P w= .ok true w:=by
   rw[run_equalIn_struct w (dd+1) f.type _ _ (by rw[hf];exact hu) hp,hf]
   rw[← hr]
   exact run_eqFields dd w hi (by simp) (by simp)
  have ht:xs.toList.drop (f.offset+sz)=l:=by
   rw[← List.drop_drop,hx,← hc];simp
  simp only[Op.eqFields,hn',ne_eq,not_false_eq_true,if_true,Sem.run_bind,run_part_agg ha hz hc hx,Result.andThen_ok,he,Sem.run_ite]
  simp[ih ht]
theorem Val.neSelf {t t':TypeId}{x y:Operand}{fs:Array Field}{xs:List Value}(hx:ev ks x=some (.agg xs.toArray))(hy:ev ks y=some (.agg xs.toArray))(hm:P.eqGuardType P.depth t=false)(hu:P.underlying t=some (.struct fs))(hp:P.stoodInHeld t=false)
 (h:SelfF P 0 fs.toList xs):Val P n B ⟨d,.binOp .neq t x y t',ty,pos,aft,g⟩ ks sg (.bool false):=Val.bin hx hy fun w=>by
 have hf:P.fieldsOf t=fs:=by simp[Program.fieldsOf,hu]
 have he:(Op.equalIn 10000 t (.agg xs.toArray) (.agg xs.toArray)).run P w= .ok true w:=by
  rw[run_equalIn_struct w 9999 t _ _ (by rw[hf];exact hu) hp,hf]
  exact run_selfFields 9997 w h (by simp)
 rw[Sem.run_bind,run_eqGuard_agg w .neq t x y _ _ hm]
 simp only[Result.andThen_ok]
 rw[run_neq_struct,he];rfl
end
end Go.Proofs.YteejleakfbnpcaaGreat.V
namespace Go.Proofs.YteejleakfbnpcaaGreat
open Go Go.RowKit V
set_option linter.unusedVariables false
set_option maxRecDepth 100000
set_option maxHeartbeats 1000000
namespace G
section
attribute [local irreducible] V.CW V.LW V.QW V.RW V.PQ V.Val V.Eff V.Qcall
open V (str byC ownV ownG ownS ownOk)
instance:Und Tryz.prog 181 (dOf Tryz.underlying181):=⟨Tryz.underlying181⟩
instance:Siz Tryz.prog 181 (kOf Tryz.sizeOf181):=⟨Tryz.sizeOf181⟩
instance:AgF Tryz.prog 181:=⟨Tryz.isAgg181⟩
instance:Und Tryz.prog 268 (dOf Tryz.underlying268):=⟨Tryz.underlying268⟩
instance:Siz Tryz.prog 268 (kOf Tryz.sizeOf268):=⟨Tryz.sizeOf268⟩
instance:AgT Tryz.prog 268:=⟨Tryz.isAgg268⟩
instance:Zer Tryz.prog 268 (zOf Tryz.zeroValue268):=⟨Tryz.zeroValue268⟩
instance:Cal Tryz.prog 167:=⟨Tryz.call167⟩
instance:Cal Tryz.prog 168:=⟨Tryz.call168⟩
def tkC (p:Int×Int):List Value:=[.int .i64 p.1,.int .i64 p.2]
theorem tkC_len (p:Int×Int):(tkC p).length=2:=rfl
theorem sameFound_c (l:List Fnd)(hl:l.length≤100000)(p q:Option Addr)(c d:Nat)(w:World)(ha:V.slAt w p 9 fdC l)(hb:V.slAt w q 9 fdC l):Calls Tryz.prog 46 [.slice p l.length c,.slice q l.length d].toArray w fun e w'=>e= .returned (.bool true)∧Below w.heap.size w w':=by
 refine Cb_ Tryz.func46 rfl Tryz.ntmps46<|pA_ 13 ?_
 refine LW.re 10 (.bool false) rfl (by simp)<|pA_ 12 ?_
 refine loopA (γ:=Nat) (fun k=>[(0,.slice p l.length c),(1,.slice q l.length d),(5,.int .i64 (k:Nat))]) (fun _=>[]) (fun k=>k≤l.length) (fun k=>l.length-k) (0) (Nat.zero_le _) fun k hk1=>pA_ 9 ?_
 refine Cd_ rfl (fun h14=>?_) fun h14=>?_
 ·have hk9:k<l.length:=by omega
  obtain⟨bb1,o1,y,rfl,hb1,hy,hr1⟩:=V.slAt_at ha rfl (k:=k) hk9
  obtain⟨bb2,o2,y2,rfl,hb2,hy2,hr2⟩:=V.slAt_at hb rfl (k:=k) hk9
  obtain rfl:y=y2:=by rw[hy] at hy2;exact Option.some.inj hy2
  refine pA_ 5 ?_
  refine Qt<|pA_ 3 ?_
  refine Qv (Val.loadOA (cs:=fdC y) rfl Tryz.isAgg97 hb1 (by simp[ids]) (hr1 k y hy) (by exact Tryz.sizeOf97))<|pA_ 3 ?_
  refine Qv (Val.loadOA (cs:=fdC y) rfl Tryz.isAgg97 hb2 (by simp[ids]) (hr2 k y hy) (by exact Tryz.sizeOf97))<|Qv (Val.neSelf rfl rfl kr_ Tryz.underlying97 kr_ (by exact(.int rfl rfl Tryz.isAgg3 Tryz.underlying3 (.bool rfl rfl Tryz.isAgg4 Tryz.underlying4 (.agg (cs:=blC y.b) (l:=[]) rfl rfl Tryz.isAgg53 Tryz.sizeOf53 rfl Tryz.underlying53 kr_ (.int rfl rfl Tryz.isAgg3 Tryz.underlying3 (.int rfl rfl Tryz.isAgg3 Tryz.underlying3 (.int rfl rfl Tryz.isAgg22 Tryz.underlying22 (.int rfl rfl Tryz.isAgg22 Tryz.underlying22 (.int rfl rfl Tryz.isAgg22 Tryz.underlying22 (.str rfl rfl Tryz.isAgg9 Tryz.underlying9 (.str rfl rfl Tryz.isAgg9 Tryz.underlying9 .nil))))))) (by simp) .nil)))))<|QW.re 25 (.bool false) rfl (by simp)<|pA_ 11 ?_
  exact roundA (k+1) om_ om_
 ·refine pA_ 12 ?_
  exact fb_
theorem samePairs_c (l:List (List UInt8×List UInt8))(hl:l.length≤100000)(p q:Option Addr)(c d:Nat)(w:World)(ha:V.slAt w p 2 prC l)(hb:V.slAt w q 2 prC l):Calls Tryz.prog 167 [.slice p l.length c,.slice q l.length d].toArray w fun e w'=>e= .returned (.bool true)∧Below w.heap.size w w':=by
 refine Cb_ Tryz.func167 rfl Tryz.ntmps167<|pA_ 13 ?_
 refine LW.re 10 (.bool false) rfl (by simp)<|pA_ 12 ?_
 refine loopA (γ:=Nat) (fun k=>[(0,.slice p l.length c),(1,.slice q l.length d),(5,.int .i64 (k:Nat))]) (fun _=>[]) (fun k=>k≤l.length) (fun k=>l.length-k) (0) (Nat.zero_le _) fun k hk1=>pA_ 9 ?_
 refine Cd_ rfl (fun h14=>?_) fun h14=>?_
 ·have hk9:k<l.length:=by omega
  obtain⟨bb1,o1,y,rfl,hb1,hy,hr1⟩:=V.slAt_at ha rfl (k:=k) hk9
  obtain⟨bb2,o2,y2,rfl,hb2,hy2,hr2⟩:=V.slAt_at hb rfl (k:=k) hk9
  obtain rfl:y=y2:=by rw[hy] at hy2;exact Option.some.inj hy2
  refine pA_ 5 ?_
  refine Qt<|pA_ 3 ?_
  refine Qv (Val.loadOA (cs:=prC y) rfl Tryz.isAgg263 hb1 (by simp[ids]) (hr1 k y hy) (by exact Tryz.sizeOf263))<|pA_ 3 ?_
  refine Qv (Val.loadOA (cs:=prC y) rfl Tryz.isAgg263 hb2 (by simp[ids]) (hr2 k y hy) (by exact Tryz.sizeOf263))<|Qv (Val.neA rfl rfl kr_ Tryz.underlying263 kr_ (by exact(.str rfl rfl Tryz.isAgg9 Tryz.underlying9 (.str rfl rfl Tryz.isAgg9 Tryz.underlying9 .nil))))<|QW.re 25 (.bool false) rfl (by simp)<|pA_ 11 ?_
  exact roundA (k+1) om_ om_
 ·refine pA_ 12 ?_
  exact fb_
theorem sameTexts_c (l:List (List UInt8))(hl:l.length≤100000)(p q:Option Addr)(c d:Nat)(w:World)(ha:V.slAt w p 1 txC l)(hb:V.slAt w q 1 txC l):Calls Tryz.prog 168 [.slice p l.length c,.slice q l.length d].toArray w fun e w'=>e= .returned (.bool true)∧Below w.heap.size w w':=by
 refine Cb_ Tryz.func168 rfl Tryz.ntmps168<|pA_ 13 ?_
 refine LW.re 10 (.bool false) rfl (by simp)<|pA_ 12 ?_
 refine loopA (γ:=Nat) (fun k=>[(0,.slice p l.length c),(1,.slice q l.length d),(5,.int .i64 (k:Nat))]) (fun _=>[]) (fun k=>k≤l.length) (fun k=>l.length-k) (0) (Nat.zero_le _) fun k hk1=>pA_ 9 ?_
 refine Cd_ rfl (fun h14=>?_) fun h14=>?_
 ·have hk9:k<l.length:=by omega
  obtain⟨bb1,o1,y,rfl,hb1,hy,hr1⟩:=V.slAt_at ha rfl (k:=k) hk9
  obtain⟨bb2,o2,y2,rfl,hb2,hy2,hr2⟩:=V.slAt_at hb rfl (k:=k) hk9
  obtain rfl:y=y2:=by rw[hy] at hy2;exact Option.some.inj hy2
  refine pA_ 5 ?_
  refine Qt<|pA_ 3 ?_
  refine Qv (Val.loadO rfl Tryz.isAgg9 hb1 (by simp[ids]) (hr1 k y hy 0 _ rfl))<|pA_ 3 ?_
  refine Qv (Val.loadO rfl Tryz.isAgg9 hb2 (by simp[ids]) (hr2 k y hy 0 _ rfl))<|Qv NS<|QW.re 25 (.bool false) rfl (by simp)<|pA_ 11 ?_
  exact roundA (k+1) om_ om_
 ·refine pA_ 12 ?_
  exact fb_
theorem sameTaken_c (l:List (Int×Int))(hl:l.length≤100000)(p q:Option Addr)(c d:Nat)(w:World)(ha:V.slAt w p 2 tkC l)(hb:V.slAt w q 2 tkC l):Calls Tryz.prog 170 [.slice p l.length c,.slice q l.length d].toArray w fun e w'=>e= .returned (.bool true)∧Below w.heap.size w w':=by
 refine Cb_ Tryz.func170 rfl Tryz.ntmps170<|pA_ 13 ?_
 refine LW.re 10 (.bool false) rfl (by simp)<|pA_ 12 ?_
 refine loopA (γ:=Nat) (fun k=>[(0,.slice p l.length c),(1,.slice q l.length d),(5,.int .i64 (k:Nat))]) (fun _=>[]) (fun k=>k≤l.length) (fun k=>l.length-k) (0) (Nat.zero_le _) fun k hk1=>pA_ 9 ?_
 refine Cd_ rfl (fun h14=>?_) fun h14=>?_
 ·have hk9:k<l.length:=by omega
  obtain⟨bb1,o1,y,rfl,hb1,hy,hr1⟩:=V.slAt_at ha rfl (k:=k) hk9
  obtain⟨bb2,o2,y2,rfl,hb2,hy2,hr2⟩:=V.slAt_at hb rfl (k:=k) hk9
  obtain rfl:y=y2:=by rw[hy] at hy2;exact Option.some.inj hy2
  refine pA_ 5 ?_
  refine Qt<|pA_ 3 ?_
  refine Qv (Val.loadOA (cs:=tkC y) rfl Tryz.isAgg268 hb1 (by simp[ids]) (hr1 k y hy) (by exact Tryz.sizeOf268))<|pA_ 3 ?_
  refine Qv (Val.loadOA (cs:=tkC y) rfl Tryz.isAgg268 hb2 (by simp[ids]) (hr2 k y hy) (by exact Tryz.sizeOf268))<|Qv (Val.neA rfl rfl kr_ Tryz.underlying268 kr_ (by exact(.int rfl rfl Tryz.isAgg3 Tryz.underlying3 (.int rfl rfl Tryz.isAgg3 Tryz.underlying3 .nil))))<|QW.re 25 (.bool false) rfl (by simp)<|pA_ 11 ?_
  exact roundA (k+1) om_ om_
 ·refine pA_ 12 ?_
  exact fb_
theorem sameShelf_c (P:List (List UInt8×List UInt8))(Q:List (List UInt8))(hP:P.length≤100000)(hQ:Q.length≤100000)(p q r s:Option Addr)(c d e f:Nat)(w:World)(ha:V.slAt w p 2 prC P)(hb:V.slAt w q 1 txC Q)(hc:V.slAt w r 2 prC P)(hd:V.slAt w s 1 txC Q):Calls Tryz.prog 99 [.agg #[.slice p P.length c,.slice q Q.length d],.agg #[.slice r P.length e,.slice s Q.length f]].toArray w fun e w'=>e= .returned (.bool true)∧Below w.heap.size w w':=by
 refine Cb_ Tryz.func99 rfl Tryz.ntmps99<|Sq<|Rg<|Le XA fun b2 _=>Le XA fun b3 _=>pA_ 6 ?_
 refine Lv (Ld (v:= .slice p P.length c))<|Lv (Fa 0 173)<|Lv (Ld (v:= .slice r P.length e))<|Le (CV fun w hw=>samePairs_c P hP p r c e w (hw.slAt ha (by simp[ids])) (hw.slAt hc (by simp[ids]))) fun _ _=>Lv Mv<|Lv (Fa 1 174)<|Lv (Ld (v:= .slice q Q.length d))<|Lv (Fa 1 174)<|Lv (Ld (v:= .slice s Q.length f))<|Le (CV fun w hw=>sameTexts_c Q hQ q s d f w (hw.slAt hb (by simp[ids])) (hw.slAt hd (by simp[ids]))) fun _ _=>pA_ 6 ?_
 exact fb_
theorem u64_nn (a:Int):0≤IntKind.u64.wrap a:=by
 have h:=Int.emod_nonneg a (show(18446744073709551616:Int)≠0 by decide)
 have e:IntKind.u64.wrap a=a%18446744073709551616:=by first|rfl|(simp[IntKind.wrap];done)|(unfold IntKind.wrap;rfl)
 rw[e];exact h
theorem low_g (a m:Int)(hm:0<m∧m≤1000)(w:World):∃v:Nat,v<m∧Calls Tryz.prog 6 [.int .i64 a,.int .i64 m].toArray w fun e w'=>e= .returned (.int .i64 (v:Nat))∧Below w.heap.size w w':=by
 have hm1:IntKind.u64.wrap m=m:=IntWalk.u64_in _ om_
 have h0:=u64_nn a
 have h1:0≤(IntKind.u64.wrap a).tmod m:=Int.tmod_nonneg m h0
 have h2:(IntKind.u64.wrap a).tmod m<m:=Int.tmod_lt_of_pos _ hm.1
 refine⟨((IntKind.u64.wrap a).tmod m).toNat,by omega,?_⟩
 have h3:IntKind.i64.wrap ((IntKind.u64.wrap a).tmod m)=(((IntKind.u64.wrap a).tmod m).toNat:Nat):=by rw[IntWalk.i64_in _ om_];omega
 rw[← h3]
 refine Cb_ Tryz.func6 rfl Tryz.ntmps6<|pA_ 11 ?_
 refine LW.re 8 (.int .u64 m) rfl (by rw[hm1])<|Lv (Val.rem rfl rfl om_)<|pA_ 6 ?_
 exact fb_
theorem found_g (rb db:Nat)(r:Rvl)(hk:ownOk 9 r.fd.length (r.fd.flatMap fdC) r.fo)(hl:r.fd.length≤1000):Mo Tryz.prog 47 [.pointer (some ⟨rb,0,none⟩)] ([rvO rb db r]::[ownG 97 (r.fd.flatMap fdC) r.fo]) (fun o:V.OwnO=>ownOk 9 r.fd.length (r.fd.flatMap fdC) o) (fun o=>ownV r.fd.length o) (fun o=>[ownG 97 (r.fd.flatMap fdC) o,[rvO rb db r],ownG 97 (r.fd.flatMap fdC) r.fo]):=by
 intro w hs
 obtain⟨pd,cd,hvd,hsd⟩:=own_slF r.fd r.fo hk
 refine Ca_ Tryz.func47 rfl Tryz.ntmps47 hs<|pA_ 20 ?_
 refine Lv (Ld (v:=ownV r.fd.length r.fo))<|LW.re 8 (.slice pd r.fd.length cd) rfl hvd<|Le (CM [] fun w hw hs=>cloneFd_c r.fd pd cd hl w (hsd hw pk_)) fun o ho=>pA_ 5 ?_
 exact fi_ o ho
end
section
attribute [local irreducible] V.CW V.LW V.QW V.RW V.PQ V.Val V.Eff V.Qcall
open V (str byC ownV ownG ownS ownOk)
structure tInv (Tz:Tbl):Prop where
 len:Tz.length=8
 st:tStp Tz
 bk:∀i p,Tz[i]? =some p→∀e∈p.1,bkF e.2.key=i
 nd:((tLinks Tz).map (·.key)).Nodup
theorem tb0_inv:tInv tb0:=by
 refine⟨rfl,fun p hp=>?_,fun i p hp e he=>?_,?_⟩
 ·obtain rfl:=List.eq_of_mem_replicate hp
  exact V.Stp.nil _
 ·obtain rfl:=List.eq_of_mem_replicate (List.mem_of_getElem? hp)
  cases he
 ·decide
theorem lget_none {E:LE}{k:List UInt8}(h:lget E k=none):∀e∈E,e.2.key≠k:=by
 intro e he hk
 unfold lget at h
 rw[Option.map_eq_none_iff,List.find?_eq_none] at h
 exact h e he (by simpa using hk)
theorem tLinks_set {Tz:Tbl}{i:Nat}{p q:LE×Nat}{x:Lk}(hp:Tz[i]? =some p)(hq:q.1.map (·.2)=p.1.map (·.2)++[x]):(tLinks (Tz.set i q)).Perm (tLinks Tz++[x]):=by
 obtain⟨hi,hv⟩:=List.getElem?_eq_some_iff.1 hp
 have e1:Tz=Tz.take i++p::Tz.drop (i+1):=by
  have h8:=List.take_append_drop i Tz
  rw[List.drop_eq_getElem_cons hi,hv] at h8
  exact h8.symm
 have e2:Tz.set i q=Tz.take i++q::Tz.drop (i+1):=by
  rw[List.set_eq_take_append_cons_drop,if_pos hi]
 have e3:tLinks Tz=tLinks (Tz.take i)++(p.1.map (·.2)++tLinks (Tz.drop (i+1))):=by
  conv=>lhs;rw[e1]
  unfold tLinks
  rw[List.flatMap_append,List.flatMap_cons]
 have e4:tLinks (Tz.set i q)=tLinks (Tz.take i)++((p.1.map (·.2)++[x])++tLinks (Tz.drop (i+1))):=by
  rw[e2]
  unfold tLinks
  rw[List.flatMap_append,List.flatMap_cons,hq]
 rw[e3,e4,List.append_assoc,List.append_assoc,List.append_assoc]
 exact(List.perm_append_comm.append_left _).append_left _
theorem tSet_inv {Tz:Tbl}{x:Lk}(h:tInv Tz)(hg:(tGet Tz x.key).isSome=false):tInv (tSet Tz x)∧(tLinks (tSet Tz x)).Perm (tLinks Tz++[x]):=by
 have hb:=bkF_lt x.key
 obtain⟨p,hp⟩:∃p,Tz[bkF x.key]? =some p:=⟨Tz[bkF x.key]'(by rw[h.len];omega),by simp⟩
 have hl:lget p.1 x.key=none:=by
  unfold tGet at hg
  rw[hp] at hg
  simpa using hg
 have e:tSet Tz x=Tz.set (bkF x.key) (lput p.1 x p.2,lclk p.1 x.key p.2):=by unfold tSet;rw[hp]
 have e2:lput p.1 x p.2=p.1++[(p.2,x)]:=by unfold lput;rw[hl];rfl
 have hperm:(tLinks (tSet Tz x)).Perm (tLinks Tz++[x]):=by
  rw[e]
  exact tLinks_set hp (by rw[e2];simp)
 have hpi:=List.getElem?_eq_some_iff.1 hp
 refine⟨⟨?_,fun q hq=>?_,fun i q hq e' he=>?_,?_⟩,hperm⟩
 ·rw[tSet_len];exact h.len
 ·rw[e] at hq
  rcases List.mem_or_eq_of_mem_set hq with h8|h8
  ·exact h.st q h8
  ·rw[h8,← mput_me,← mclk_me]
   exact(h.st p (List.mem_of_getElem? hp)).put _ _
 ·rw[e,List.getElem?_set] at hq
  split at hq
  ·rename_i hi
   split at hq
   ·simp only[Option.some.injEq] at hq
    subst hq
    rw[e2] at he
    rcases List.mem_append.1 he with h8|h8
    ·rw[← hi];exact h.bk _ p hp e' h8
    ·rw[List.mem_singleton] at h8
     rw[h8];exact hi
   ·cases hq
  ·exact h.bk i q hq e' he
 ·have h9:((tLinks (tSet Tz x)).map (·.key)).Perm ((tLinks Tz).map (·.key)++[x.key]):=by
   have:=hperm.map (·.key)
   simpa using this
  rw[h9.nodup_iff,List.nodup_append]
  refine⟨h.nd,by simp,fun a ha b hb2=>?_⟩
  rw[List.mem_singleton] at hb2
  obtain⟨l,hlm,rfl⟩:=List.mem_map.1 ha
  unfold tLinks at hlm
  rw[List.mem_flatMap] at hlm
  obtain⟨q,hq,hlq⟩:=hlm
  obtain⟨e',he',rfl⟩:=List.mem_map.1 hlq
  obtain⟨j,hj⟩:=List.mem_iff_getElem?.1 hq
  intro hk
  rw[hb2] at hk
  have h10:=h.bk j q hj e' he'
  rw[hk] at h10
  subst h10
  rw[hp,Option.some.injEq] at hj
  subst hj
  exact lget_none hl e' he' hk
structure OvI (Fs:List Fnd)(c:OvC):Prop where
 ti:tInv c.Tz
 tl:∀l∈tLinks c.Tz,∃f∈Fs,l=lkOf f
 tn:(tLinks c.Tz).length≤Fs.length
 ql:∀l∈c.q,∃f∈Fs,l=lkOf f
 qn:c.q.length≤Fs.length
theorem ov1_inv {Fs:List Fnd}{c c':OvC}{f:Fnd}(h:OvI Fs c)(ho:ov1 c f=some c'):OvI (Fs++[f]) c':=by
 have hup:∀{P:Fnd→Prop},(∃g∈Fs,P g)→∃g∈Fs++[f],P g:=fun⟨g,hg,hp⟩=>⟨g,List.mem_append_left _ hg,hp⟩
 unfold ov1 at ho
 split at ho
 ·cases ho
 ·split at ho
  ·simp only[Option.some.injEq] at ho
   subst ho
   refine⟨h.ti,fun l hl=>hup (h.tl l hl),by simp only[List.length_append];have:=h.tn;omega,fun l hl=>?_,by simp only[List.length_append,List.length_singleton];have:=h.qn;omega⟩
   rcases List.mem_append.1 hl with h8|h8
   ·exact hup (h.ql l h8)
   ·rw[List.mem_singleton] at h8
    exact⟨f,by simp,h8⟩
  ·split at ho
   ·cases ho
   ·rename_i hg
    simp only[Option.some.injEq] at ho
    subst ho
    obtain⟨h1,h2⟩:=tSet_inv (x:=lkOf f) h.ti (by show(tGet c.Tz f.b.key).isSome=false;simpa using hg)
    refine⟨h1,fun l hl=>?_,?_,fun l hl=>hup (h.ql l hl),by simp only[List.length_append];have:=h.qn;omega⟩
    ·have h8:=h2.subset hl
     rcases List.mem_append.1 h8 with h9|h9
     ·exact hup (h.tl l h9)
     ·rw[List.mem_singleton] at h9
      exact⟨f,by simp,h9⟩
    ·have h8:=h2.length_eq
     have h9:=h.tn
     simp only[List.length_append,List.length_singleton] at h8⊢
     omega
theorem ovAll_inv:∀{Gs Fs:List Fnd} {c c':OvC},OvI Fs c→ovAll c Gs=some c'→OvI (Fs++Gs) c'
 |[],Fs,c,c',h,ho=>by
  simp only[ovAll,Option.some.injEq] at ho
  subst ho
  simpa using h
 |f::r,Fs,c,c',h,ho=>by
  unfold ovAll at ho
  split at ho
  ·cases ho
  ·rename_i c1 h1
   have h8:=ovAll_inv (ov1_inv h h1) ho
   simpa using h8
theorem ovC0_inv (n:Nat):OvI [] (ovC0 n):=by
 have e:tLinks tb0=[]:=rfl
 exact⟨tb0_inv,fun l hl=>(by have h8:l∈tLinks tb0:=hl;rw[e] at h8;cases h8),(by show(tLinks tb0).length≤0;rw[e];exact Nat.le_refl _),fun l hl=>(by cases hl),Nat.le_refl _⟩
theorem sta_mem {a b:List Lk}(h:Stb.Sta Lk.ver a b){x:Lk}(hx:x∈b):x∈a:=by
 have h8:x∈b.filter fun y=>Lk.ver y==Lk.ver x:=List.mem_filter.2 ⟨hx,by simp⟩
 rw[h.2] at h8
 exact(List.mem_filter.1 h8).1
theorem ova_sh {th n:Nat}{e0:Int}{Fs:List Fnd}{y:ArR×ArS}(h:OvA th n e0 Fs y):ArOk th n y.1 y.2∧tStp y.2.Tz∧((tLinks y.2.Tz).map (·.key)).Nodup∧(tLinks y.2.Tz).length≤Fs.length∧(rgQ y.2.rg).length≤Fs.length∧(∀l∈tLinks y.2.Tz,∃f∈Fs,l=lkOf f)∧∀l∈rgQ y.2.rg,∃f∈Fs,l=lkOf f:=by
 obtain⟨c,hc,Lz,rg,ro,hs,_,hsta,_,hok⟩:=h.get y.1 y.2 rfl
 have hi:=ovAll_inv (ovC0_inv n) hc
 rw[List.nil_append] at hi
 have e1:y.2.Tz=c.Tz:=by rw[hs];rfl
 have e2:y.2.rg=rg:=by rw[hs];rfl
 rw[e1,e2]
 refine⟨hok,hi.ti.st,hi.ti.nd,hi.tn,?_,hi.tl,fun l hl=>hi.ql l (sta_mem hsta hl)⟩
 rw[hsta.1];exact hi.qn
theorem key_inj:∀{M:List Lk},(M.map (·.key)).Nodup→∀{a b:Lk},a∈M→b∈M→a.key=b.key→a=b
 |[],_,a,b,ha,_,_=>by cases ha
 |x::M,h,a,b,ha,hb,e=>by
  rw[List.map_cons,List.nodup_cons] at h
  rcases List.mem_cons.1 ha with ha'|ha'
  ·rcases List.mem_cons.1 hb with hb'|hb'
   ·rw[ha',hb']
   ·exact absurd (List.mem_map_of_mem (f:=(·.key)) hb') (by rw[← ha',e] at h;exact h.1)
  ·rcases List.mem_cons.1 hb with hb'|hb'
   ·exact absurd (List.mem_map_of_mem (f:=(·.key)) ha') (by rw[← hb',← e] at h;exact h.1)
   ·exact key_inj h.2 ha' hb' e
theorem upL_uniq:∀{A B M:List Lk},A.Perm B→UpL A→UpL B→(∀a∈A,a∈M)→(M.map (·.key)).Nodup→A=B
 |[],B,M,hp,_,_,_,_=>(List.nil_perm.1 hp).symm
 |a::A,[],M,hp,_,_,_,_=>by have:=hp.length_eq;simp at this
 |a::A,b::B,M,hp,ha,hb,hM,hn=>by
  have hbA:b∈a::A:=hp.symm.subset List.mem_cons_self
  have haB:a∈b::B:=hp.subset List.mem_cons_self
  have h1:¬b.key<a.key:=by
   rcases List.mem_cons.1 hbA with rfl|h8
   ·exact List.lt_irrefl _
   ·exact(List.pairwise_cons.1 ha).1 b h8
  have h2:¬a.key<b.key:=by
   rcases List.mem_cons.1 haB with rfl|h8
   ·exact List.lt_irrefl _
   ·exact(List.pairwise_cons.1 hb).1 a h8
  have he:a=b:=key_inj hn (hM a List.mem_cons_self) (hM b hbA) (List.le_antisymm (List.not_lt.1 h1) (List.not_lt.1 h2))
  subst he
  rw[upL_uniq ((List.perm_cons a).1 hp) (List.pairwise_cons.1 ha).2 (List.pairwise_cons.1 hb).2 (fun x hx=>hM x (List.mem_cons_of_mem _ hx)) hn]
end
section
attribute [local irreducible] V.CW V.LW V.QW V.RW V.PQ V.Val V.Eff V.Qcall
open V (str byC ownV ownG ownS ownOk)
def lowF (a m:Int):Nat:=((IntKind.u64.wrap a).tmod m).toNat
theorem low_lt {a m:Int}(hm:0<m):(lowF a m:Int)<m:=by
 have h1:0≤(IntKind.u64.wrap a).tmod m:=Int.tmod_nonneg m (u64_nn a)
 have h2:(IntKind.u64.wrap a).tmod m<m:=Int.tmod_lt_of_pos _ hm
 unfold lowF;omega
theorem lowF_g (a m:Int)(hm:0<m∧m≤1000):Rz Tryz.prog 6 [.int .i64 a,.int .i64 m] (.int .i64 (lowF a m:Nat)):=by
 intro w
 have hm1:IntKind.u64.wrap m=m:=IntWalk.u64_in _ om_
 have h0:=u64_nn a
 have h1:0≤(IntKind.u64.wrap a).tmod m:=Int.tmod_nonneg m h0
 have h2:(IntKind.u64.wrap a).tmod m<m:=Int.tmod_lt_of_pos _ hm.1
 have h3:IntKind.i64.wrap ((IntKind.u64.wrap a).tmod m)=((lowF a m:Nat):Int):=by unfold lowF;rw[IntWalk.i64_in _ om_];omega
 rw[← h3]
 refine Cb_ Tryz.func6 rfl Tryz.ntmps6<|pA_ 11 ?_
 refine LW.re 8 (.int .u64 m) rfl (by rw[hm1])<|Lv (Val.rem rfl rfl om_)<|pA_ 6 ?_
 exact fb_
theorem sl_up {α:Type}{w0:World}{F:List Nat}{sg:V.Sg}{w:World}{p:Option Addr}{sz:Nat}{enc:α→List Value}{l:List α}(hw:Hp ⟨w0,F⟩ sg w)(h:V.slAt w0 p sz enc l)(hf:0<l.length→∀b o,p=some ⟨b,o,none⟩→b∉F):V.slAt w p sz enc l:=by
 by_cases h0:0<l.length
 ·exact hw.slAt h (hf h0)
 ·exact .inl (List.length_eq_zero_iff.1 om_)
theorem sl_in {α:Type}{w:World}{p:Option Addr}{sz:Nat}{enc:α→List Value}{l:List α}(h:V.slAt w p sz enc l)(h0:0<l.length){b o:Nat}(hb:p=some ⟨b,o,none⟩):b<w.heap.size:=by
 rcases h with h|⟨b2,o2,h2,h3,_⟩
 ·rw[h] at h0;exact absurd h0 (by simp)
 ·rw[hb] at h2
  simp only[Option.some.injEq,Addr.mk.injEq] at h2
  rw[h2.1];exact h3
theorem cut_gc (x:DvR)(D:List Ce)(k:Cnt)(keep:List Int)(p:Option Addr)(cp:Nat)(hD:D.length≤100000)(hkl:keep.length≤100000)(w:World)(hs:Sat (dvS x D k) w)(hk:V.slAt w p 1 inI keep)(hkd:0<keep.length→∀b o,p=some ⟨b,o,none⟩→b∉V.ids (dvS x D k)):Calls Tryz.prog 16 [.pointer (some ⟨x.db,0,none⟩),.slice p keep.length cp].toArray w fun e w'=>∃o:V.OwnO,ownOk 1 (lostTo D keep D.length).length ((lostTo D keep D.length).flatMap inI) o∧e= .returned (.tuple #[ownV (lostTo D keep D.length).length o,.int .i64 0])∧Hp ⟨w,V.ids ((dvS x D k))⟩ (ownG 3 ((lostTo D keep D.length).flatMap inI) o::dvS x (cutD D keep) {k with e:=IntKind.i64.wrap (k.e+1)}) w':=by
 refine Cs_ (dvS x D k) Tryz.func16 rfl Tryz.ntmps16 hs<|pA_ 27 ?_
 refine Lv (Ld (v:= .slice (some ⟨x.cb,0,none⟩) D.length x.cap))<|pA_ 5 ?_
 refine V.CW.perm (sg':=[ownG 3 ((lostTo D keep 0).flatMap inI) none,[(x.db,.cells (dxC x D k).toArray 123 (0,0))],[(x.cb,.cells (cxC x (mixTo (cutD D keep) D 0)).toArray 128 (0,0))]]) ?_ (by unfold mixTo lostTo;simp[V.ownG,V.ownS])
 refine loopA (γ:=Nat×V.OwnO) (fun j=>[(0,.pointer (some ⟨x.db,0,none⟩)),(1,.slice p keep.length cp),(15,.int .i64 (D.length:Nat)),(6,ownV (lostTo D keep j.1).length j.2),(16,.int .i64 (j.1:Nat))]) (fun j=>[ownG 3 ((lostTo D keep j.1).flatMap inI) j.2,[(x.db,.cells (dxC x D k).toArray 123 (0,0))],[(x.cb,.cells (cxC x (mixTo (cutD D keep) D j.1)).toArray 128 (0,0))]]) (fun j=>j.1≤D.length∧ownOk 1 (lostTo D keep j.1).length ((lostTo D keep j.1).flatMap inI) j.2) (fun j=>D.length-j.1) ((0,none)) ⟨Nat.zero_le _,⟨rfl,rfl⟩⟩ fun j=>?_
 rintro⟨hj1,hj2⟩
 refine pA_ 6 ?_
 refine Cd_ rfl (fun h17=>?_) fun h17=>?_
 ·have hi:j.1<D.length:=by omega
  have hmul:=Nat.mul_le_mul_right 193 (show j.1+1≤D.length from hi)
  have hml:=cutD_len D keep
  have hmx:=mix_len hml j.1
  have hll:=lostTo_len D keep j.1
  obtain⟨c,hc⟩:∃c,D[j.1]? =some c:=⟨_,List.getElem?_eq_getElem hi⟩
  have hst:=lostTo_succ (keep:=keep) hc
  refine pA_ 15 ?_
  refine Lv (Ld (v:= .slice (some ⟨x.cb,0,none⟩) D.length x.cap))<|Lv Mv<|Lv (Val.indexAddrN rfl rfl Tryz.underlying116 Tryz.sizeOf128 hi)<|LW.re 24 (.pointer (some ⟨x.cb,j.1*193,none⟩)) rfl (by simp)<|pA_ 8 ?_
  refine Lv (La (ceC c) (r:=(cx_all (x:=x) (mix_at hml hc)).choose) (hl:=by simpa using(cx_all (x:=x) (mix_at hml hc)).choose_spec) (hs:=by rw[ceC_len];exact Tryz.sizeOf128))<|Le (Cz_ (loose_g c)) fun _ _=>Nl<|Ps ?_
  refine Cd_ rfl (fun h28=>?_) fun h28=>?_
  ·have h28:looseB c=true:=h28
   refine pA_ 4 ?_
   refine Le (CV fun w hw=>contains_g keep p cp ((j.1:Nat):Int) hkl w (sl_up hw hk hkd)) fun _ _=>Nl<|Ps ?_
   refine Cd_ rfl (fun h31=>?_) fun h31=>?_
   ·have h31:((j.1:Nat):Int)∈keep:=by simpa using h31
    rw[if_neg (by simp[h31]),List.append_nil] at hst
    have hc3:((mixTo (cutD D keep) D j.1).set j.1 (Ce.mk c.now c.now c.way c.sent))[j.1]? =some (Ce.mk c.now c.now c.way c.sent):=List.getElem?_set_self (by rw[hmx];omega)
    refine pA_ 5 ?_
    refine Lv (La (byC c.now.1) (r:=(cx_now (x:=x) (mix_at hml hc)).choose) (hl:=by simpa using(cx_now (x:=x) (mix_at hml hc)).choose_spec) (hs:=by rw[byC64];exact Tryz.sizeOf126))<|Lv Nz<|Lv (Fa 64 126)<|LeN (Eff.storeA (cs:=byC c.now.1) (l:=cxC x (mixTo (cutD D keep) D j.1)) (l':=cxC x ((mixTo (cutD D keep) D j.1).set j.1 (Ce.mk c.now c.now c.way c.sent))) rfl rfl up_ (by have h8:=cx_in (x:=x) (mix_at hml hc) 64 (byC c.now.1) (c':=(Ce.mk c.now c.now c.way c.sent)) (ce_kept c c.now) (by simp[byC64]);simpa using h8) (by rw[cx_len];simp[byC64,hmx];omega) (by rw[byC64];exact Tryz.sizeOf126) (V.byC_one _)) fun _ _=>pA_ 8 ?_
    refine Lv (La (byC (Ce.mk c.now c.now c.way c.sent).kept.1) (r:=(cx_kept (x:=x) hc3).choose) (hl:=(cx_kept (x:=x) hc3).choose_spec) (hs:=by rw[byC64];exact Tryz.sizeOf126))<|Lv Nz<|Lv (Fa 0 126)<|LeN (Eff.storeA (cs:=byC (Ce.mk c.now c.now c.way c.sent).kept.1) (l:=cxC x ((mixTo (cutD D keep) D j.1).set j.1 (Ce.mk c.now c.now c.way c.sent))) (l':=cxC x ((mixTo (cutD D keep) D j.1).set j.1 (Ce.mk (Ce.mk c.now c.now c.way c.sent).kept (Ce.mk c.now c.now c.way c.sent).kept (Ce.mk c.now c.now c.way c.sent).way (Ce.mk c.now c.now c.way c.sent).sent))) rfl rfl up_ (by have h8:=cx_in (x:=x) hc3 0 (byC (Ce.mk c.now c.now c.way c.sent).kept.1) (c':=(Ce.mk (Ce.mk c.now c.now c.way c.sent).kept (Ce.mk c.now c.now c.way c.sent).kept (Ce.mk c.now c.now c.way c.sent).way (Ce.mk c.now c.now c.way c.sent).sent)) (ce_now (Ce.mk c.now c.now c.way c.sent) (Ce.mk c.now c.now c.way c.sent).kept) (by simp[byC64]);rw[List.set_set] at h8;simpa using h8) (by rw[cx_len];simp[byC64,hmx];omega) (by rw[byC64];exact Tryz.sizeOf126) (V.byC_one _)) ?_
    intro _ _
    refine Lv Nz<|Lv (Fa 192 4) ?_
    refine LW.eN rfl (Eff.storeX (v:= .bool false) (l:=cxC x ((mixTo (cutD D keep) D j.1).set j.1 (Ce.mk (Ce.mk c.now c.now c.way c.sent).kept (Ce.mk c.now c.now c.way c.sent).kept (Ce.mk c.now c.now c.way c.sent).way (Ce.mk c.now c.now c.way c.sent).sent))) (l':=cxC x ((mixTo (cutD D keep) D j.1).set j.1 (Ce.mk (Ce.mk c.now c.now c.way c.sent).kept (Ce.mk c.now c.now c.way c.sent).kept (Ce.mk c.now c.now c.way c.sent).way false))) rfl rfl rfl up_ (by have h8:=cx_in (x:=x) (c:=(Ce.mk (Ce.mk c.now c.now c.way c.sent).kept (Ce.mk c.now c.now c.way c.sent).kept (Ce.mk c.now c.now c.way c.sent).way (Ce.mk c.now c.now c.way c.sent).sent)) (c':=(Ce.mk (Ce.mk c.now c.now c.way c.sent).kept (Ce.mk c.now c.now c.way c.sent).kept (Ce.mk c.now c.now c.way c.sent).way false)) (List.getElem?_set_self (by rw[hmx];omega)) 192 [.bool false] (ce_sent (Ce.mk (Ce.mk c.now c.now c.way c.sent).kept (Ce.mk c.now c.now c.way c.sent).kept (Ce.mk c.now c.now c.way c.sent).way (Ce.mk c.now c.now c.way c.sent).sent) false) (by simp);rw[List.set_set] at h8;simpa[V.splice] using h8) (by rw[cx_len];simp[hmx];omega) Tryz.sizeOf4) ?_
    intro _ _
    refine pA_ 7 ?_
    have e8:(Ce.mk (Ce.mk c.now c.now c.way c.sent).kept (Ce.mk c.now c.now c.way c.sent).kept (Ce.mk c.now c.now c.way c.sent).way false)=cutC keep j.1 c:=by
     unfold cutC;simp[h31]
    rw[e8,mix_step hml hc (cutD_at hc)]
    rw[← hst]
    refine PQ.round ((j.1+1,j.2)) ⟨by simp only;omega,by simp only;rw[hst];exact hj2⟩ (by simp only;omega) (by exact⟨rfl,rfl,rfl,by rw[hst];rfl,rfl,trivial⟩) pk_
   ·have h31:¬((j.1:Nat):Int)∈keep:=by simpa using h31
    rw[if_pos (by simp[h28,h31])] at hst
    refine Rg<|Lv Mv<|Lv Mv<|Le (Eff.buildSlice (rfl) [_] Tryz.underlying24 Tryz.sizeOf3 (by exact Tryz.zeroValue3) rfl rfl rfl rfl (by rfl)) fun b41 _=>Le (Eff.appendAny (inI ((j.1:Nat):Int)) (sz:=1) (bytes:=8) (z:= .int .i64 0) (xs:=(lostTo D keep j.1).flatMap inI) (m0:=(lostTo D keep j.1).length) (o:=j.2) (m:=1) (pk:=[ownG 3 ((lostTo D keep j.1).flatMap inI) (j.2)]) rfl rfl Tryz.underlying24 kr_ rfl om_ pk_ (by simp) hj2 (by rfl) (fun hm0=>⟨b41,0,rfl,fun w hw=>V.range_of_block (o:=0) (cs:=inI ((j.1:Nat):Int)) (r:=[]) (hw.own _ (show InS (b41,.cells (inI ((j.1:Nat):Int)).toArray 3 (0,0)) _ from in_).mem) rfl⟩) (by rfl) om_ om_) fun o2 ho2=>Lv Av<|Nl<|Ps<|Rg<|Lv Mv<|Lv Mv<|Lv Mv<|Lv Nz<|Lv (Fa 64 126)<|Lv (La (byC c.kept.1) (r:=(cx_kept (x:=x) (mix_at hml hc)).choose) (hl:=(cx_kept (x:=x) (mix_at hml hc)).choose_spec) (hs:=by rw[byC64];exact Tryz.sizeOf126))<|Lv Nz<|Lv (Fa 0 126)<|LeN (Eff.storeA (cs:=byC c.kept.1) (l:=cxC x (mixTo (cutD D keep) D j.1)) (l':=cxC x ((mixTo (cutD D keep) D j.1).set j.1 (Ce.mk c.kept c.kept c.way c.sent))) rfl rfl up_ (by have h8:=cx_in (x:=x) (mix_at hml hc) 0 (byC c.kept.1) (c':=(Ce.mk c.kept c.kept c.way c.sent)) (ce_now c c.kept) (by simp[byC64]);simpa using h8) (by rw[cx_len];simp[byC64,hmx];omega) (by rw[byC64];exact Tryz.sizeOf126) (V.byC_one _)) fun _ _=>Lv Nz<|Lv (Fa 192 4) ?_
    refine LW.eN rfl (Eff.storeX (v:= .bool false) (l:=cxC x ((mixTo (cutD D keep) D j.1).set j.1 (Ce.mk c.kept c.kept c.way c.sent))) (l':=cxC x ((mixTo (cutD D keep) D j.1).set j.1 (Ce.mk c.kept c.kept c.way false))) rfl rfl rfl up_ (by have h8:=cx_in (x:=x) (c:=(Ce.mk c.kept c.kept c.way c.sent)) (c':=(Ce.mk c.kept c.kept c.way false)) (List.getElem?_set_self (by rw[hmx];omega)) 192 [.bool false] (ce_sent (Ce.mk c.kept c.kept c.way c.sent) false) (by simp);rw[List.set_set] at h8;simpa[V.splice] using h8) (by rw[cx_len];simp[hmx];omega) Tryz.sizeOf4) ?_
    intro _ _
    refine pA_ 7 ?_
    have e8:(Ce.mk c.kept c.kept c.way false)=cutC keep j.1 c:=by
     unfold cutC;simp[h31]
    rw[e8,mix_step hml hc (cutD_at hc)]
    rw[← show(lostTo D keep (j.1+1)).flatMap inI=(lostTo D keep j.1).flatMap inI++inI ((j.1:Nat):Int) by rw[hst,List.flatMap_append];rfl]
    refine PQ.round ((j.1+1,o2)) ⟨by simp only;omega,by simp only;rw[hst,List.flatMap_append,List.length_append];exact ho2⟩ (by simp only;omega) (by exact⟨rfl,rfl,rfl,by rw[hst,List.length_append];rfl,rfl,trivial⟩) pk_
  ·have h28:looseB c=false:=h28
   rw[if_neg (by simp[h28]),List.append_nil] at hst
   refine pA_ 8 ?_
   refine Lv (La (byC c.kept.1) (r:=(cx_kept (x:=x) (mix_at hml hc)).choose) (hl:=(cx_kept (x:=x) (mix_at hml hc)).choose_spec) (hs:=by rw[byC64];exact Tryz.sizeOf126))<|Lv Nz<|Lv (Fa 0 126)<|LeN (Eff.storeA (cs:=byC c.kept.1) (l:=cxC x (mixTo (cutD D keep) D j.1)) (l':=cxC x ((mixTo (cutD D keep) D j.1).set j.1 (Ce.mk c.kept c.kept c.way c.sent))) rfl rfl up_ (by have h8:=cx_in (x:=x) (mix_at hml hc) 0 (byC c.kept.1) (c':=(Ce.mk c.kept c.kept c.way c.sent)) (ce_now c c.kept) (by simp[byC64]);simpa using h8) (by rw[cx_len];simp[byC64,hmx];omega) (by rw[byC64];exact Tryz.sizeOf126) (V.byC_one _)) fun _ _=>Lv Nz<|Lv (Fa 192 4) ?_
   refine LW.eN rfl (Eff.storeX (v:= .bool false) (l:=cxC x ((mixTo (cutD D keep) D j.1).set j.1 (Ce.mk c.kept c.kept c.way c.sent))) (l':=cxC x ((mixTo (cutD D keep) D j.1).set j.1 (Ce.mk c.kept c.kept c.way false))) rfl rfl rfl up_ (by have h8:=cx_in (x:=x) (c:=(Ce.mk c.kept c.kept c.way c.sent)) (c':=(Ce.mk c.kept c.kept c.way false)) (List.getElem?_set_self (by rw[hmx];omega)) 192 [.bool false] (ce_sent (Ce.mk c.kept c.kept c.way c.sent) false) (by simp);rw[List.set_set] at h8;simpa[V.splice] using h8) (by rw[cx_len];simp[hmx];omega) Tryz.sizeOf4) ?_
   intro _ _
   refine pA_ 7 ?_
   have e8:(Ce.mk c.kept c.kept c.way false)=cutC keep j.1 c:=by
    have e7:c.now=c.kept:=by simpa[looseB] using h28
    unfold cutC;simp[e7]
   rw[e8,mix_step hml hc (cutD_at hc)]
   rw[← hst]
   refine PQ.round ((j.1+1,j.2)) ⟨by simp only;omega,by simp only;rw[hst];exact hj2⟩ (by simp only;omega) (by exact⟨rfl,rfl,rfl,by rw[hst];rfl,rfl,trivial⟩) pk_
 ·have hj9:j.1=D.length:=by omega
  have hend:(mixTo (cutD D keep) D j.1)=cutD D keep:=by unfold mixTo;rw[hj9,List.take_of_length_le (by rw[cutD_len];omega),List.drop_eq_nil_iff.2 om_,List.append_nil]
  rw[hend]
  refine pA_ 11 ?_
  refine Le (CM ([[(x.db,.cells (dxC x D k).toArray 123 (0,0))]]) fun w hw hs=>addI_c x.db 5 (dxC x D k) 123 k.e 1 w rfl hs) fun _ _=>pA_ 11 ?_
  obtain⟨j1,jo⟩:=j
  simp only at hj9 hj1 hj2
  subst hj9
  intro w' hw
  exact⟨jo,hj2,rfl,by unfold dvS dxC;rw[cutD_len];exact hw.pick pk_⟩
theorem cut_v (x:DvR)(v:Dev)(keep:List Int)(p:Option Addr)(cp:Nat)(hD:v.D.length≤100000)(hkl:keep.length≤100000)(w:World)(hs:Sat (vS x v) w)(hk:V.slAt w p 1 inI keep)(hkd:0<keep.length→∀b o,p=some ⟨b,o,none⟩→b∉V.ids (vS x v)):Calls Tryz.prog 16 [.pointer (some ⟨x.db,0,none⟩),.slice p keep.length cp].toArray w fun e w'=>∃o:V.OwnO,ownOk 1 (lostTo v.D keep v.D.length).length ((lostTo v.D keep v.D.length).flatMap inI) o∧e= .returned (.tuple #[ownV (lostTo v.D keep v.D.length).length o,.int .i64 0])∧Hp ⟨w,V.ids ((vS x v))⟩ (ownG 3 ((lostTo v.D keep v.D.length).flatMap inI) o::vS x (v.cut keep)) w':=
 cut_gc x v.D v.k keep p cp hD hkl w hs hk hkd
end
section
attribute [local irreducible] V.CW V.LW V.QW V.RW V.PQ V.Val V.Eff V.Qcall
open V (str byC ownV ownG ownS ownOk)
theorem places268:∀w,((Array.mapM (fun(f:Field)=>do pure (f.offset,← sizeOf f.type)) (Tryz.prog.fieldsOf 268):Sem (Array (Nat×Nat)))).run Tryz.prog w= .ok [(0,1),(1,1)].toArray w:=by
 intro w;kernel_rfl
instance:Plc Tryz.prog 268 (fOf Tryz.underlying268) (lOf (P:=Tryz.prog) places268):=⟨places268,Tryz.underlying268⟩
def tkS (i:Int)(s:Slb)(n:Nat):List (Int×Int):=(List.range n).filterMap fun k=>if s.tk.1[k]? =some true then(startsF i s.c)[k]?.map fun l=>(l,s.c) else none
def tkL (L:List Slb)(m:Nat):List (Int×Int):=(List.range m).flatMap fun i=>(L[i]?.map fun s=>tkS (i:Nat) s (startsF (i:Nat) s.c).length).getD []
theorem tkS_succ (i:Int)(s:Slb)(n:Nat):tkS i s (n+1)=tkS i s n++(if s.tk.1[n]? =some true then(startsF i s.c)[n]?.map fun l=>(l,s.c) else none).toList:=by
 unfold tkS
 rw[List.range_succ,List.filterMap_append]
 congr 1
theorem tkL_succ {L:List Slb}{m:Nat}{s:Slb}(h:L[m]? =some s):tkL L (m+1)=tkL L m++tkS (m:Nat) s (startsF (m:Nat) s.c).length:=by
 unfold tkL
 rw[List.range_succ,List.flatMap_append,List.flatMap_singleton,h];rfl
theorem tkS_le (i:Int)(s:Slb)(n:Nat):(tkS i s n).length≤n:=by
 unfold tkS
 have:=List.length_filterMap_le (fun k=>if s.tk.1[k]? =some true then(startsF i s.c)[k]?.map fun l=>(l,s.c) else none) (List.range n)
 rw[List.length_range] at this
 exact this
theorem tkL_le (L:List Slb):∀m,(tkL L m).length≤8*m
 |0=>by simp[tkL]
 |m+1=>by
  have h1:=tkL_le L m
  unfold tkL at h1⊢
  rw[List.range_succ,List.flatMap_append,List.flatMap_singleton,List.length_append]
  cases h:L[m]? with
  |none=>simp only[Option.map_none,Option.getD_none,List.length_nil];omega
  |some s=>
   simp only[Option.map_some,Option.getD_some]
   have h2:=tkS_le (m:Nat) s (startsF (m:Nat) s.c).length
   have h3:=starts_len (m:Nat) s.c
   omega
theorem taken_g (pb sb:Nat)(L:List Slb)(hL:L.length≤32):Mo Tryz.prog 172 [.pointer (some ⟨pb,0,none⟩)] (plS pb sb L) (fun o:V.OwnO=>ownOk 2 (tkL L L.length).length ((tkL L L.length).flatMap tkC) o) (fun o=>ownV (tkL L L.length).length o) (fun o=>ownG 268 ((tkL L L.length).flatMap tkC) o::plS pb sb L):=by
 intro w hs
 refine Ca_ Tryz.func172 rfl Tryz.ntmps172 hs<|pA_ 14 ?_
 refine Le (CV fun w hw=>all_c pb sb L w hw.at) fun _ _=>pA_ 5 ?_
 refine nilSeg<|loopA (γ:=Nat×V.OwnO) (fun a=>[(3,ownV (tkL L a.1).length a.2),(9,.slice (some ⟨sb,0,none⟩) L.length L.length),(10,.int .i64 (L.length:Nat)),(11,.int .i64 (a.1:Nat))]) (fun a=>ownG 268 ((tkL L a.1).flatMap tkC) a.2::plS pb sb L) (fun a=>a.1≤L.length∧ownOk 2 (tkL L a.1).length ((tkL L a.1).flatMap tkC) a.2) (fun a=>L.length-a.1) ((0,none)) ⟨Nat.zero_le _,rfl,rfl⟩ fun a=>?_
 rintro⟨ha1,ha2⟩
 refine pA_ 6 ?_
 refine Cd_ rfl (fun h12=>?_) fun h12=>?_
 ·have hik:a.1<L.length:=by omega
  obtain⟨s,hLi⟩:∃s,L[a.1]? =some s:=⟨L[a.1]'hik,by simp⟩
  obtain⟨r7,hr7⟩:=V.drop_flatMap slC_len L a.1 s hLi
  refine pA_ 7 ?_
  refine Lv (Val.indexAddrN (i:=a.1) rfl rfl Tryz.underlying312 Tryz.sizeOf316 om_)<|LW.re 14 (.pointer (some ⟨sb,a.1*10,none⟩)) rfl (by simp)<|Lv (La (slC s) (r:=r7) (hl:=hr7) (hs:=by rw[slC_len];exact Tryz.sizeOf316))<|Le AA fun b5 _=>Lv Av<|LeN (StW (cs:=slC s) (h1:=slC_one s) (hlen:=by rw[slC_len];rfl) (hs:=by rw[slC_len];exact Tryz.sizeOf316)) fun _ _=>pA_ 6 ?_
  refine Lv (Ld (v:= .int .i64 s.c))<|Le (Cn_ (starts_c (a.1:Nat) s.c)) fun o ho=>?_
  obtain⟨ps,cs,hvs,hss⟩:=own_slI _ o ho
  refine LW.re 19 (.slice ps (startsF (a.1:Nat) s.c).length cs) rfl hvs<|pA_ 5 ?_
  have hA0:tkL L a.1++tkS (a.1:Nat) s 0=tkL L a.1:=by simp[tkS]
  rw[← hA0]
  refine loopA (γ:=Nat×V.OwnO) (fun b=>[(3,ownV (tkL L a.1++tkS (a.1:Nat) s b.1).length b.2),(4,.int .i64 (a.1:Nat)),(5,.pointer (some ⟨b5,0,none⟩)),(9,.slice (some ⟨sb,0,none⟩) L.length L.length),(10,.int .i64 (L.length:Nat)),(11,.int .i64 (a.1:Nat)),(19,.slice ps (startsF (a.1:Nat) s.c).length cs),(20,.int .i64 ((startsF (a.1:Nat) s.c).length:Nat)),(21,.int .i64 (b.1:Nat))]) (fun b=>ownG 268 ((tkL L a.1++tkS (a.1:Nat) s b.1).flatMap tkC) b.2::[(b5,.cells (slC s).toArray 316 (0,0))]::ownG 3 ((startsF (a.1:Nat) s.c).flatMap inI) o::plS pb sb L) (fun b=>b.1≤(startsF (a.1:Nat) s.c).length∧ownOk 2 (tkL L a.1++tkS (a.1:Nat) s b.1).length ((tkL L a.1++tkS (a.1:Nat) s b.1).flatMap tkC) b.2) (fun b=>(startsF (a.1:Nat) s.c).length-b.1) ((0,a.2)) ⟨Nat.zero_le _,by simpa[tkS] using ha2⟩ fun b=>?_
  rintro⟨hb1,hb2⟩
  refine pA_ 6 ?_
  refine Cd_ rfl (fun h22=>?_) fun h22=>?_
  ·have hk3:b.1<(startsF (a.1:Nat) s.c).length:=by omega
   have hsl8:=starts_len (a.1:Nat) s.c
   obtain⟨ln,hln⟩:∃ln,(startsF (a.1:Nat) s.c)[b.1]? =some ln:=⟨(startsF (a.1:Nat) s.c)[b.1]'hk3,by simp⟩
   obtain⟨tb,htb⟩:=tk_get s (show b.1<8 by omega)
   have hsu:=tkS_succ (a.1:Nat) s b.1
   have hle1:=tkL_le L a.1
   have hle2:=tkS_le (a.1:Nat) s b.1
   have hAl:(tkL L a.1++tkS (a.1:Nat) s b.1).length=(tkL L a.1).length+(tkS (a.1:Nat) s b.1).length:=List.length_append
   rcases o with _|⟨g,rest,cap⟩
   ·exact absurd ho.2 om_
   have hps:ps=some ⟨g,0,none⟩:=by
    have h8:ownV (startsF (a.1:Nat) s.c).length (some (g,rest,cap))= .slice (some ⟨g,0,none⟩) (startsF (a.1:Nat) s.c).length cap:=rfl
    rw[h8] at hvs
    injection hvs with h9
    exact h9.symm
   subst hps
   obtain⟨r9,hr9⟩:=V.drop_flatMap inI_len (startsF (a.1:Nat) s.c) b.1 ln hln
   have hcl:((startsF (a.1:Nat) s.c).flatMap inI++rest)[b.1]? =some (.int .i64 ln):=by
    have h6:=V.flatMap_len inI_len (startsF (a.1:Nat) s.c)
    rw[List.getElem?_append_left om_]
    have h3:=congrArg (fun z=>z[0]?) hr9
    simpa[inI] using h3
   refine pA_ 7 ?_
   refine Lv (Val.indexAddrN (i:=b.1) rfl rfl Tryz.underlying24 Tryz.sizeOf3 om_)<|LW.re 24 (.pointer (some ⟨g,b.1,none⟩)) rfl (by simp)<|Lv (Ld (v:= .int .i64 ln) (hl:=hcl))<|pA_ 8 ?_
   refine Lv (Val.indexAddrA (i:=b.1) rfl rfl Tryz.underlying314 Tryz.sizeOf4 om_)<|Lv (Ld (v:= .bool tb) (hl:=by rw[Nat.mul_one];first|exact sl_t s htb|(have h8:=sl_t s htb;simpa using h8)))<|Nl<|Ps ?_
   refine Cd_ rfl (fun h29=>?_) fun h29=>?_
   ·have h29:tb=true:=h29
    subst h29
    have hs2:tkS (a.1:Nat) s (b.1+1)=tkS (a.1:Nat) s b.1++[(ln,s.c)]:=by rw[hsu,if_pos htb,hln];rfl
    refine Rg<|Lv Mv<|Lv Mv<|Lv (Fa 0 3)<|Lv (Ld (v:= .int .i64 s.c))<|Lv (Bd (tkC (ln,s.c)))<|Le (Eff.buildSlice (rfl) [_,_] Tryz.underlying181 Tryz.sizeOf268 (by exact Tryz.zeroValue268) rfl rfl rfl rfl (by rfl)) fun b35 _=>Le (Eff.appendAny (tkC (ln,s.c)) (sz:=2) (bytes:=16) (z:= .agg #[.int .i64 0,.int .i64 0]) (xs:=(tkL L a.1++tkS (a.1:Nat) s b.1).flatMap tkC) (m0:=(tkL L a.1++tkS (a.1:Nat) s b.1).length) (o:=b.2) (m:=1) (pk:=[ownG 268 ((tkL L a.1++tkS (a.1:Nat) s b.1).flatMap tkC) (b.2)]) rfl rfl Tryz.underlying181 kr_ rfl om_ pk_ (by simp) hb2 (by rfl) (fun hm0=>⟨b35,0,rfl,fun w hw=>V.range_of_block (o:=0) (cs:=tkC (ln,s.c)) (r:=[]) (hw.own _ (show InS (b35,.cells (tkC (ln,s.c)).toArray 268 (0,0)) _ from in_).mem) rfl⟩) (by rfl) om_ om_) fun o2 ho2=>Lv Av<|Nl<|Bn<|Ps<|Rg<|Lv Ar<|Lv Mv<|Nl ?_
    rw[← show(tkL L a.1++tkS (a.1:Nat) s (b.1+1)).flatMap tkC=(tkL L a.1++tkS (a.1:Nat) s b.1).flatMap tkC++tkC (ln,s.c) by rw[hs2,← List.append_assoc,List.flatMap_append];rfl]
    rw[← show(tkL L a.1++tkS (a.1:Nat) s (b.1+1)).length=(tkL L a.1++tkS (a.1:Nat) s b.1).length+1 by rw[hs2,← List.append_assoc,List.length_append];rfl]
    exact roundA ((b.1+1,o2)) ⟨by simp only;omega,by simp only;rw[hs2,← List.append_assoc,List.flatMap_append,List.length_append];exact ho2⟩ (by simp only;omega)
   ·have h29:tb=false:=h29
    subst h29
    have hs2:tkS (a.1:Nat) s (b.1+1)=tkS (a.1:Nat) s b.1:=by rw[hsu,if_neg (by rw[htb];decide)];simp
    refine pA_ 7 ?_
    rw[← hs2]
    exact roundA ((b.1+1,b.2)) ⟨by simp only;omega,by simp only;rw[hs2];exact hb2⟩ (by simp only;omega)
  ·have hb9:b.1=(startsF (a.1:Nat) s.c).length:=by omega
   rw[hb9] at hb2⊢
   rw[← tkL_succ hLi] at hb2⊢
   refine pA_ 10 ?_
   exact roundA ((a.1+1,b.2)) ⟨by simp only;omega,hb2⟩ (by simp only;omega)
 ·obtain⟨a1,oa⟩:=a
  have ha9:a1=L.length:=by simp only at ha1 h12;omega
  subst ha9
  refine pA_ 13 ?_
  exact fi_ oa ha2
end
section
attribute [local irreducible] V.CW V.LW V.QW V.RW V.PQ V.Val V.Eff V.Qcall
open V (str byC ownV ownG ownS ownOk)
def insT:List (Int×Int)→Int×Int→List (Int×Int)
 |[],x=>[x]
 |y::r,x=>if x.1<y.1 then x::y::r else y::insT r x
def ofT (T:List (Int×Int))(line:Int):Bool:=T.any fun t=>decide (t.1=line)
def clsT (T:List (Int×Int))(k:Int):Int:=((T.find? fun t=>decide (slabOfF t.1=k)).map (·.2)).getD (-1)
def markT (n:Nat)(T:List (Int×Int))(line c:Int):List (Int×Int)×Int:=if homeF line c=false∨(n:Int)≤slabOfF line then(T,1) else if ofT T line=true∨(0≤clsT T (slabOfF line)∧clsT T (slabOfF line)≠c) then(T,7) else(insT T (line,c),0)
def riseT (T:List (Int×Int)):Prop:=T.Pairwise fun a b=>a.1<b.1
theorem insT_mem {x y:Int×Int}:∀{T:List (Int×Int)},y∈insT T x↔y=x∨y∈T
 |[]=>by simp[insT]
 |z::r=>by
  unfold insT
  split
  ·simp
  ·rw[List.mem_cons,insT_mem (T:=r),List.mem_cons]
   constructor
   ·rintro(h|h|h)<;>simp[h]
   ·rintro(h|h|h)<;>simp[h]
theorem insT_rise {x:Int×Int}:∀{T:List (Int×Int)},riseT T→(∀t∈T,t.1≠x.1)→riseT (insT T x)
 |[],_,_=>by simp[insT,riseT]
 |z::r,h,hn=>by
  have h1:=List.pairwise_cons.1 h
  have hz:=hn z List.mem_cons_self
  unfold insT
  split
  ·rename_i hlt
   refine List.pairwise_cons.2 ⟨fun a ha=>?_,h⟩
   rcases List.mem_cons.1 ha with rfl|ha
   ·exact hlt
   ·have:=h1.1 a ha;omega
  ·rename_i hlt
   refine List.pairwise_cons.2 ⟨fun a ha=>?_,insT_rise h1.2 fun t ht=>hn t (List.mem_cons_of_mem _ ht)⟩
   rcases insT_mem.1 ha with rfl|ha
   ·omega
   ·exact h1.1 a ha
theorem rise_uniq:∀{A B:List (Int×Int)},riseT A→riseT B→(∀x,x∈A↔x∈B)→A=B
 |[],[],_,_,_=>rfl
 |[],b::B,_,_,h=>absurd ((h b).2 List.mem_cons_self) (by simp)
 |a::A,[],_,_,h=>absurd ((h a).1 List.mem_cons_self) (by simp)
 |a::A,b::B,hA,hB,h=>by
  have hA1:=List.pairwise_cons.1 hA
  have hB1:=List.pairwise_cons.1 hB
  have hab:a=b:=by
   rcases List.mem_cons.1 ((h a).1 List.mem_cons_self) with h1|h1
   ·exact h1
   ·rcases List.mem_cons.1 ((h b).2 List.mem_cons_self) with h2|h2
    ·exact h2.symm
    ·have:=hA1.1 b h2
     have:=hB1.1 a h1
     omega
  subst hab
  rw[rise_uniq hA1.2 hB1.2 fun x=>by
   have h3:=h x
   rw[List.mem_cons,List.mem_cons] at h3
   constructor
   ·intro hx
    rcases h3.1 (.inr hx) with h4|h4
    ·have:=hA1.1 x hx;rw[h4] at this;omega
    ·exact h4
   ·intro hx
    rcases h3.2 (.inr hx) with h4|h4
    ·have:=hB1.1 x hx;rw[h4] at this;omega
    ·exact h4]
theorem st_line {i:Nat}{c:Int}{k:Nat}{line:Int}(hi:i<32)(h:(startsF (i:Nat) c)[k]? =some line):line=2+8*(i:Int)+((k*spanF c:Nat):Int)∧k*spanF c+spanF c≤8∧spanF c≠0:=by
 unfold startsF at h
 split at h
 ·simp at h
 ·rename_i hn
  have hs:slabF (i:Nat)=2+(i:Int)*8:=by unfold slabF;rw[if_neg om_]
  have hk:k<8/spanF c:=by
   have:=(List.getElem?_eq_some_iff.1 h).1
   simpa using this
  rw[List.getElem?_map,List.getElem?_range hk] at h
  simp only[Option.map_some,Option.some.injEq] at h
  have h8:(k+1)*spanF c≤8:=Nat.le_trans (Nat.mul_le_mul_right _ hk) (Nat.div_mul_le_self 8 (spanF c))
  rw[Nat.add_mul,Nat.one_mul] at h8
  refine⟨?_,h8,fun e=>hn (.inl e)⟩
  rw[← h,hs,Int.natCast_mul];omega
theorem st_slab {i:Nat}{c:Int}{k:Nat}{line:Int}(hi:i<32)(h:(startsF (i:Nat) c)[k]? =some line):slabOfF line=(i:Nat):=by
 obtain⟨h1,h2,h3⟩:=st_line hi h
 generalize k*spanF c=m at h1 h2
 unfold slabOfF
 rw[if_neg om_,Int.tdiv_eq_ediv_of_nonneg om_]
 omega
theorem st_inj {i:Nat}{c:Int}{k j:Nat}{a b:Int}(hi:i<32)(h:(startsF (i:Nat) c)[k]? =some a)(h2:(startsF (i:Nat) c)[j]? =some b):(k<j→a<b)∧(a=b→k=j):=by
 obtain⟨h1,_,h3⟩:=st_line hi h
 obtain⟨g1,_,_⟩:=st_line hi h2
 have hlt:∀{x y:Nat},x<y→x*spanF c<y*spanF c:=fun hxy=>(Nat.mul_lt_mul_right om_).2 hxy
 refine⟨fun hkj=>by have:=hlt hkj;omega,fun e=>?_⟩
 rcases Nat.lt_trichotomy k j with h4|h4|h4
 ·have:=hlt h4;omega
 ·exact h4
 ·have:=hlt h4;omega
theorem mem_tkS {i:Int}{s:Slb}{n:Nat}{x:Int×Int}:x∈tkS i s n↔∃k,k<n∧s.tk.1[k]? =some true∧(startsF i s.c)[k]? =some x.1∧x.2=s.c:=by
 unfold tkS
 rw[List.mem_filterMap]
 constructor
 ·rintro⟨k,hk,h⟩
  rw[List.mem_range] at hk
  split at h
  ·rename_i ht
   rw[Option.map_eq_some_iff] at h
   obtain⟨l,hl,rfl⟩:=h
   exact⟨k,hk,ht,hl,rfl⟩
  ·cases h
 ·rintro⟨k,hk,ht,hl,hc⟩
  refine⟨k,List.mem_range.2 hk,?_⟩
  rw[if_pos ht,hl,Option.map_some,← hc]
theorem mem_tkL {L:List Slb}{m:Nat}{x:Int×Int}:x∈tkL L m↔∃(i:Nat) (s:Slb) (k:Nat),i<m∧L[i]? =some s∧s.tk.1[k]? =some true∧(startsF (i:Nat) s.c)[k]? =some x.1∧x.2=s.c:=by
 unfold tkL
 rw[List.mem_flatMap]
 constructor
 ·rintro⟨i,hi,h⟩
  rw[List.mem_range] at hi
  cases e:L[i]? with
  |none=>rw[e] at h;cases h
  |some s=>
   rw[e] at h
   obtain⟨k,_,h2,h3,h4⟩:=mem_tkS.1 (show x∈tkS (i:Nat) s (startsF (i:Nat) s.c).length from h)
   exact⟨i,s,k,hi,e,h2,h3,h4⟩
 ·rintro⟨i,s,k,hi,e,h2,h3,h4⟩
  refine⟨i,List.mem_range.2 hi,?_⟩
  rw[e]
  exact mem_tkS.2 ⟨k,(List.getElem?_eq_some_iff.1 h3).1,h2,h3,h4⟩
theorem tkL_rise {L:List Slb}{m:Nat}(hm:m≤32):riseT (tkL L m):=by
 unfold tkL riseT
 rw[List.pairwise_flatMap]
 constructor
 ·intro i hi
  rw[List.mem_range] at hi
  cases e:L[i]? with
  |none=>exact .nil
  |some s=>
   show(tkS (i:Nat) s (startsF (i:Nat) s.c).length).Pairwise _
   unfold tkS
   refine List.Pairwise.filterMap _ (R:=fun a b:Nat=>a<b) (fun a b hab x hx y hy=>?_) List.pairwise_lt_range
   split at hx
   ·split at hy
    ·rw[Option.map_eq_some_iff] at hx hy
     obtain⟨u,hu,rfl⟩:=hx
     obtain⟨w,hw,rfl⟩:=hy
     exact(st_inj om_ hu hw).1 hab
    ·cases hy
   ·cases hx
 ·refine List.Pairwise.imp_of_mem (fun {i j} hi hj hij=>?_) (List.pairwise_lt_range (n:=m))
  rw[List.mem_range] at hi hj
  intro x hx y hy
  cases e:L[i]? with
  |none=>rw[e] at hx;cases hx
  |some s=>
   cases e2:L[j]? with
   |none=>rw[e2] at hy;cases hy
   |some r=>
    rw[e] at hx
    rw[e2] at hy
    obtain⟨k,_,_,h3,_⟩:=mem_tkS.1 (show x∈tkS (i:Nat) s (startsF (i:Nat) s.c).length from hx)
    obtain⟨k2,_,_,g3,_⟩:=mem_tkS.1 (show y∈tkS (j:Nat) r (startsF (j:Nat) r.c).length from hy)
    obtain⟨a1,a2,_⟩:=st_line om_ h3
    obtain⟨b1,b2,_⟩:=st_line om_ g3
    omega
structure PRel (L:List Slb)(T:List (Int×Int)):Prop where
 eq:T=tkL L L.length
 ok:plOk L
 ne:∀(i:Nat) s,L[i]? =some s→s.c= -1∨1≤s.n
 lt:∀(i:Nat) s k,L[i]? =some s→s.tk.1[k]? =some true→k<(startsF (i:Nat) s.c).length
theorem PRel.mem {L:List Slb}{T:List (Int×Int)}(h:PRel L T){x:Int×Int}:x∈T↔∃(i:Nat) (s:Slb) (k:Nat),i<L.length∧L[i]? =some s∧s.tk.1[k]? =some true∧(startsF (i:Nat) s.c)[k]? =some x.1∧x.2=s.c:=by
 rw[h.eq];exact mem_tkL
theorem tk_lt {s:Slb}{k:Nat}{b:Bool}(h:s.tk.1[k]? =some b):k<8:=by
 have:=(List.getElem?_eq_some_iff.1 h).1
 rw[s.tk.2] at this;exact this
theorem mark_rel {L:List Slb}{T:List (Int×Int)}(h:PRel L T)(line c:Int):(markT L.length T line c).2=(markF L line c).2∧PRel (markF L line c).1 (markT L.length T line c).1:=by
 have hL32:=h.ok.2
 unfold markT markF
 by_cases h0:homeF line c=false∨(L.length:Int)≤slabOfF line
 ·rw[if_pos h0,if_pos h0];exact⟨rfl,h⟩
 rw[if_neg h0,if_neg h0]
 have hh:homeF line c=true:=by
  cases e:homeF line c with
  |true=>rfl
  |false=>exact absurd (.inl e) h0
 obtain⟨kk,hkk,hk8,hi0,hc03⟩:=home_get hh
 obtain⟨i,hi⟩:∃i:Nat,slabOfF line=i:=⟨(slabOfF line).toNat,by omega⟩
 have hiL:i<L.length:=by
  by_cases e:(L.length:Int)≤slabOfF line
  ·exact absurd (.inr e) h0
  ·omega
 rw[hi] at hkk
 rw[hi,Int.toNat_natCast,hkk,Int.toNat_natCast]
 obtain⟨s,hs⟩:∃s,L[i]? =some s:=⟨L[i],List.getElem?_eq_getElem hiL⟩
 rw[hs]
 simp only
 have hst:(startsF (i:Nat) c)[kk]? =some line:=(starts_get hkk).1
 have hsok:=h.ok.at hs
 have hin:∀x∈T,slabOfF x.1=(i:Nat)→∃k,s.tk.1[k]? =some true∧(startsF (i:Nat) s.c)[k]? =some x.1∧x.2=s.c:=fun x hx hxi=>by
  obtain⟨j,r,k,hj,hr,h2,h3,h4⟩:=h.mem.1 hx
  have hsl:=st_slab om_ h3
  have hij:j=i:=by omega
  subst hij
  rw[hs,Option.some.injEq] at hr
  subst hr
  exact⟨k,h2,h3,h4⟩
 have hcls:(s.c= -1→clsT T (i:Nat)= -1∧ofT T line=false)∧(s.c≠ -1→clsT T (i:Nat)=s.c):=by
  constructor
  ·intro e
   have hno:∀x∈T,slabOfF x.1≠(i:Nat):=fun x hx hxi=>by
    obtain⟨k,h2,_,_⟩:=hin x hx hxi
    rw[hsok.none e (tk_lt h2)] at h2
    cases h2
   refine⟨?_,?_⟩
   ·unfold clsT
    rw[List.find?_eq_none.2 fun x hx=>by simpa using hno x hx];rfl
   ·unfold ofT
    rw[List.any_eq_false]
    intro x hx
    have:=hno x hx
    simp only[decide_eq_true_eq]
    intro e2
    rw[e2] at this
    exact this hi
  ·intro e
   have hn:1≤s.n:=by
    rcases h.ne i s hs with h8|h8
    ·exact absurd h8 e
    ·exact h8
   have hcnt:0<s.tk.1.count true:=by have:=hsok.1;omega
   have hmem:true∈s.tk.1:=List.count_pos_iff.1 hcnt
   obtain⟨k,hk⟩:=List.mem_iff_getElem?.1 hmem
   have hlt:=h.lt i s k hs hk
   have hx:((startsF (i:Nat) s.c)[k],s.c)∈T:=h.mem.2 ⟨i,s,k,hiL,hs,hk,List.getElem?_eq_getElem hlt,rfl⟩
   have hsl:slabOfF (startsF (i:Nat) s.c)[k]=(i:Nat):=st_slab om_ (List.getElem?_eq_getElem hlt)
   unfold clsT
   cases hf:T.find? fun t=>decide (slabOfF t.1=(i:Nat)) with
   |none=>
    rw[List.find?_eq_none] at hf
    have:=hf _ hx
    simp[hsl] at this
   |some x=>
    have h1:=List.mem_of_find?_eq_some hf
    have h2:=List.find?_some hf
    obtain⟨_,_,_,h5⟩:=hin x h1 (by simpa using h2)
    rw[Option.map_some,Option.getD_some,h5]
 have hof:s.c=c→(ofT T line=true↔s.tk.1[kk]? =some true):=fun e=>by
  unfold ofT
  rw[List.any_eq_true]
  constructor
  ·rintro⟨x,hx,hxl⟩
   simp only[decide_eq_true_eq] at hxl
   obtain⟨k,h2,h3,_⟩:=hin x hx (by rw[hxl];exact hi)
   rw[e,hxl] at h3
   have:=(st_inj om_ h3 hst).2 rfl
   rw[← this];exact h2
  ·intro ht
   exact⟨(line,s.c),h.mem.2 ⟨i,s,kk,hiL,hs,ht,by rw[e];exact hst,rfl⟩,by simp⟩
 have hiff:(ofT T line=true∨(0≤clsT T (i:Nat)∧clsT T (i:Nat)≠c))↔((s.c≠ -1∧s.c≠c)∨s.tk.1[kk]? =some true):=by
  by_cases e:s.c= -1
  ·obtain⟨e1,e2⟩:=hcls.1 e
   rw[e1,e2,hsok.none e hk8]
   constructor
   ·rintro(h8|h8)
    ·cases h8
    ·omega
   ·rintro(h8|h8)
    ·exact absurd e h8.1
    ·cases h8
  ·rw[hcls.2 e]
   by_cases e2:s.c=c
   ·rw[hof e2]
    constructor
    ·rintro(h8|h8)
     ·exact .inr h8
     ·exact absurd e2 h8.2
    ·rintro(h8|h8)
     ·exact absurd e2 h8.2
     ·exact .inl h8
   ·have hge:0≤s.c:=by rcases hsok.2 with h8|h8;exact absurd h8.1 e;exact h8.1
    exact⟨fun _=> .inl ⟨e,e2⟩,fun _=> .inr ⟨hge,e2⟩⟩
 by_cases hb:(s.c≠ -1∧s.c≠c)∨s.tk.1[kk]? =some true
 ·rw[if_pos hb,if_pos (hiff.2 hb)];exact⟨rfl,h⟩
 rw[if_neg hb,if_neg fun h8=>hb (hiff.1 h8)]
 refine⟨rfl,?_⟩
 have hfree:s.tk.1[kk]? =some false:=by
  obtain⟨b,hb2⟩:=tk_get s hk8
  cases b with
  |false=>exact hb2
  |true=>exact absurd (.inr hb2) hb
 have hsc:s.c= -1∨s.c=c:=by
  by_cases e:s.c= -1
  ·exact .inl e
  ·by_cases e2:s.c=c
   ·exact .inr e2
   ·exact absurd (.inl ⟨e,e2⟩) hb
 have hnew:∀k,(s.take c kk).tk.1[k]? =some true↔k=kk∨s.tk.1[k]? =some true:=fun k=>by
  show(s.tk.1.set kk true)[k]? =some true↔_
  rw[List.getElem?_set]
  by_cases e:kk=k
  ·subst e
   rw[if_pos rfl,if_pos (by rw[s.tk.2];exact hk8)];simp
  ·rw[if_neg e]
   constructor
   ·exact fun h8=> .inr h8
   ·rintro(h8|h8)
    ·exact absurd h8.symm e
    ·exact h8
 have hold:∀k,s.tk.1[k]? =some true→s.c=c:=fun k hk=>by
  rcases hsc with e|e
  ·rw[hsok.none e (tk_lt hk)] at hk;cases hk
  ·exact e
 have hget:∀j r,(L.set i (s.take c kk))[j]? =some r→(j=i∧r=s.take c kk)∨(j≠i∧L[j]? =some r):=fun j r hr=>by
  rw[List.getElem?_set] at hr
  by_cases e:i=j
  ·rw[if_pos e,if_pos hiL,Option.some.injEq] at hr
   exact .inl ⟨e.symm,hr.symm⟩
  ·rw[if_neg e] at hr
   exact .inr ⟨fun e2=>e e2.symm,hr⟩
 have hnot:∀t∈T,t.1≠line:=fun t ht e=>by
  obtain⟨k,h2,h3,_⟩:=hin t ht (by rw[e];exact hi)
  have e2:=hold k h2
  rw[e2,e] at h3
  have:=(st_inj om_ h3 hst).2 rfl
  rw[this,hfree] at h2
  cases h2
 refine⟨?_,h.ok.set (Slb.take_ok hsok hc03 hfree),fun j r hr=>?_,fun j r k hr hk=>?_⟩
 ·refine rise_uniq (insT_rise (by rw[h.eq];exact tkL_rise hL32) hnot) (tkL_rise (by rw[List.length_set];exact hL32)) fun x=>?_
  rw[insT_mem,mem_tkL,List.length_set]
  constructor
  ·rintro(rfl|hx)
   ·exact⟨i,s.take c kk,kk,hiL,List.getElem?_set_self hiL,(hnew kk).2 (.inl rfl),hst,rfl⟩
   ·obtain⟨j,r,k,hj,hr,h2,h3,h4⟩:=h.mem.1 hx
    by_cases e:j=i
    ·subst e
     rw[hs,Option.some.injEq] at hr
     subst hr
     have e2:=hold k h2
     exact⟨j,s.take c kk,k,hj,List.getElem?_set_self hiL,(hnew k).2 (.inr h2),by show(startsF (j:Nat) c)[k]? =_;rw[← e2];exact h3,by show x.2=c;rw[← e2];exact h4⟩
    ·exact⟨j,r,k,hj,by rw[List.getElem?_set_ne (fun e2=>e e2.symm)];exact hr,h2,h3,h4⟩
  ·rintro⟨j,r,k,hj,hr,h2,h3,h4⟩
   rcases hget j r hr with⟨e1,e2⟩|⟨e1,e2⟩
   ·subst e1
    subst e2
    rcases(hnew k).1 h2 with e3|e3
    ·left
     subst e3
     have h3':(startsF (j:Nat) c)[k]? =some x.1:=h3
     rw[hst,Option.some.injEq] at h3'
     exact Prod.ext h3'.symm h4
    ·right
     have e4:=hold k e3
     exact h.mem.2 ⟨j,s,k,hj,hs,e3,by rw[e4];exact h3,by rw[e4];exact h4⟩
   ·exact .inr (h.mem.2 ⟨j,r,k,hj,e2,h2,h3,h4⟩)
 ·rcases hget j r hr with⟨_,e2⟩|⟨_,e2⟩
  ·right
   rw[e2]
   show 1≤s.n+1
   have:=hsok.1
   omega
  ·exact h.ne j r e2
 ·rcases hget j r hr with⟨e1,e2⟩|⟨_,e2⟩
  ·subst e1
   rw[e2] at hk⊢
   show k<(startsF (j:Nat) c).length
   rcases(hnew k).1 hk with e3|e3
   ·rw[e3];exact(List.getElem?_eq_some_iff.1 hst).1
   ·rw[← hold k e3];exact h.lt j s k hs e3
  ·exact h.lt j r k e2 hk
theorem prel0 {n:Nat}(h:n≤32):PRel (List.replicate n slbN) []:=by
 refine⟨?_,slN_ok n h,fun i s hs=>?_,fun i s k hs hk=>?_⟩
 ·refine rise_uniq .nil (tkL_rise (by simpa using h)) fun x=>?_
  rw[mem_tkL]
  constructor
  ·intro hx;cases hx
  ·rintro⟨i,s,k,_,hs,h2,_⟩
   obtain rfl:=List.eq_of_mem_replicate (List.mem_of_getElem? hs)
   have h3:=tk_lt h2
   have h4:(List.replicate 8 false)[k]? =some true:=h2
   rw[List.getElem?_replicate,if_pos h3] at h4
   cases h4
 ·obtain rfl:=List.eq_of_mem_replicate (List.mem_of_getElem? hs)
  exact .inl rfl
 ·obtain rfl:=List.eq_of_mem_replicate (List.mem_of_getElem? hs)
  have h3:=tk_lt hk
  have h4:(List.replicate 8 false)[k]? =some true:=hk
  rw[List.getElem?_replicate,if_pos h3] at h4
  cases h4
end
section
attribute [local irreducible] V.CW V.LW V.QW V.RW V.PQ V.Val V.Eff V.Qcall
open V (str byC ownV ownG ownS ownOk)
def badR (f:Fnd):Bool:= !f.good|| !mayF f.b||(decide (f.b.kind≠1)&&decide (f.b.kind≠2))
def mapK (Fs:List Fnd):List (List UInt8):=(Fs.filter fun f=>decide (f.b.kind=1)).map fun f=>f.b.key
def fitsF (Fs:List Fnd):Int:=if ovFar Fs=true then 10 else if Fs.any badR=true∨¬(mapK Fs).Nodup then 3 else 0
def insK:List Lk→Lk→List Lk
 |[],x=>[x]
 |y::r,x=>if x.key<y.key then x::y::r else y::insK r x
def setR (l:List Lk)(x:Lk):List Lk:=insK (l.filter fun y=> !decide (y.key=x.key)) x
def behF:List Lk→Lk→List Lk
 |[],x=>[x]
 |y::r,x=>if x.ver<y.ver then x::y::r else y::behF r x
structure ROv where
 T:List (Int×Int)
 id:Int
 ver:Int
 tl:List Lk
 q:List Lk
def rov1 (n:Nat)(c:ROv)(f:Fnd):Option ROv:=if(markT n c.T f.line f.b.cls).2≠0 then none else some ⟨(markT n c.T f.line f.b.cls).1,imax c.id f.b.id,imax c.ver f.b.ver,if f.b.kind=1 then setR c.tl (lkOf f) else c.tl,if f.b.kind=1 then c.q else behF c.q (lkOf f)⟩
def rovAll (n:Nat):ROv→List Fnd→Option ROv
 |c,[]=>some c
 |c,f::r=>match rov1 n c f with
  |none=>none
  |some c'=>rovAll n c' r
def rov0:ROv:=⟨[],0,0,[],[]⟩
def rovE (n:Nat)(Fs:List Fnd):Int:=if fitsF Fs≠0 then fitsF Fs else if(rovAll (slabsF n).toNat rov0 Fs).isNone then 3 else 0
theorem insK_perm:∀{l:List Lk} {x:Lk},(insK l x).Perm (x::l)
 |[],x=> .refl _
 |y::r,x=>by
  unfold insK
  split
  ·exact .refl _
  ·exact((insK_perm (l:=r) (x:=x)).cons y).trans (List.Perm.swap x y r)
theorem insK_up:∀{l:List Lk} {x:Lk},UpL l→UpL (insK l x)
 |[],x,_=>List.pairwise_singleton _ _
 |y::r,x,h=>by
  have h1:=List.pairwise_cons.1 h
  unfold insK
  split
  ·rename_i hlt
   refine List.pairwise_cons.2 ⟨fun a ha=>?_,h⟩
   rcases List.mem_cons.1 ha with rfl|ha
   ·exact fun e=>List.lt_irrefl _ (List.lt_trans hlt e)
   ·exact fun e=>h1.1 a ha (List.lt_trans e hlt)
  ·rename_i hlt
   refine List.pairwise_cons.2 ⟨fun a ha=>?_,insK_up h1.2⟩
   rcases List.mem_cons.1 (insK_perm.subset ha) with rfl|ha
   ·exact hlt
   ·exact h1.1 a ha
theorem setR_new {l:List Lk}{x:Lk}(h:∀y∈l,y.key≠x.key):setR l x=insK l x:=by
 unfold setR
 rw[List.filter_eq_self.2 fun y hy=>by simpa using h y hy]
theorem behF_mem {x y:Lk}:∀{l:List Lk},y∈behF l x↔y=x∨y∈l
 |[]=>by simp[behF]
 |z::r=>by
  unfold behF
  split
  ·simp
  ·rw[List.mem_cons,behF_mem (l:=r),List.mem_cons]
   constructor
   ·rintro(h|h|h)<;>simp[h]
   ·rintro(h|h|h)<;>simp[h]
theorem behF_len {x:Lk}:∀{l:List Lk},(behF l x).length=l.length+1
 |[]=>rfl
 |z::r=>by
  unfold behF
  split
  ·rfl
  ·rw[List.length_cons,behF_len,List.length_cons]
theorem behF_up {x:Lk}:∀{l:List Lk},Stb.Up Lk.ver l→Stb.Up Lk.ver (behF l x)
 |[],_=>List.pairwise_singleton _ _
 |y::r,h=>by
  have h1:=List.pairwise_cons.1 h
  unfold behF
  split
  ·rename_i hlt
   refine List.pairwise_cons.2 ⟨fun a ha=>?_,h⟩
   rcases List.mem_cons.1 ha with rfl|ha
   ·omega
   ·have:=h1.1 a ha;omega
  ·rename_i hlt
   refine List.pairwise_cons.2 ⟨fun a ha=>?_,behF_up h1.2⟩
   rcases behF_mem.1 ha with rfl|ha
   ·omega
   ·exact h1.1 a ha
theorem behF_filter {x:Lk}{k:Int}:∀{l:List Lk},Stb.Up Lk.ver l→(behF l x).filter (fun y=>y.ver==k)=(l++[x]).filter (fun y=>y.ver==k)
 |[],_=>rfl
 |y::r,h=>by
  have h1:=List.pairwise_cons.1 h
  unfold behF
  split
  ·rename_i hlt
   by_cases hk:x.ver=k
   ·have hn:(y::r).filter (fun y=>y.ver==k)=[]:=by
     rw[List.filter_eq_nil_iff]
     intro a ha
     rcases List.mem_cons.1 ha with rfl|ha
     ·simp;omega
     ·have:=h1.1 a ha
      simp;omega
    rw[List.filter_append,hn,List.filter_cons_of_pos (by simp[hk]),hn]
    simp[hk]
   ·rw[List.filter_append,List.filter_cons_of_neg (by simp[hk])]
    simp[hk]
  ·rw[List.cons_append,List.filter_cons,List.filter_cons,behF_filter h1.2]
theorem behF_sta {a b:List Lk}{x:Lk}(h:Stb.Sta Lk.ver a b)(hu:Stb.Up Lk.ver b):Stb.Sta Lk.ver (a++[x]) (behF b x):=by
 refine⟨by rw[behF_len,h.1,List.length_append];rfl,fun k=>?_⟩
 rw[behF_filter hu,List.filter_append,List.filter_append]
 congr 1
 exact h.2 k
structure ORel (c:OvC)(r:ROv):Prop where
 pl:PRel c.L r.T
 id:r.id=c.id
 ver:r.ver=c.ver
 tp:r.tl.Perm (tLinks c.Tz)
 tu:UpL r.tl
 qs:Stb.Sta Lk.ver c.q r.q
 qu:Stb.Up Lk.ver r.q
structure OvM (Fs:List Fnd)(c:OvC):Prop where
 i:OvI Fs c
 m:∀f∈Fs,f.b.kind=1→lkOf f∈tLinks c.Tz
theorem tGet_no {Tz:Tbl}(h:tInv Tz)(k:List UInt8):(tGet Tz k).isSome=true↔∃l∈tLinks Tz,l.key=k:=by
 have hb:=bkF_lt k
 obtain⟨p,hp⟩:∃p,Tz[bkF k]? =some p:=⟨Tz[bkF k]'(by rw[h.len];omega),by simp⟩
 have e:tGet Tz k=lget p.1 k:=by unfold tGet;rw[hp];rfl
 rw[e]
 constructor
 ·intro hs
  unfold lget at hs
  rw[Option.isSome_map,List.find?_isSome] at hs
  obtain⟨x,hx,hk⟩:=hs
  refine⟨x.2,?_,by simpa using hk⟩
  unfold tLinks
  exact List.mem_flatMap.2 ⟨p,List.mem_of_getElem? hp,List.mem_map.2 ⟨x,hx,rfl⟩⟩
 ·rintro⟨l,hl,hk⟩
  unfold tLinks at hl
  obtain⟨q,hq,hlq⟩:=List.mem_flatMap.1 hl
  obtain⟨x,hx,rfl⟩:=List.mem_map.1 hlq
  obtain⟨j,hj⟩:=List.mem_iff_getElem?.1 hq
  have h1:=h.bk j q hj x hx
  rw[hk] at h1
  subst h1
  rw[hp,Option.some.injEq] at hj
  subst hj
  unfold lget
  rw[Option.isSome_map,List.find?_isSome]
  exact⟨x,hx,by simpa using hk⟩
theorem mapK_snoc (Fs:List Fnd)(f:Fnd):mapK (Fs++[f])=mapK Fs++(if f.b.kind=1 then[f.b.key] else[]):=by
 unfold mapK
 rw[List.filter_append,List.map_append]
 by_cases h:f.b.kind=1<;>simp[h]
theorem mapK_mem {Fs:List Fnd}{k:List UInt8}:k∈mapK Fs↔∃f∈Fs,f.b.kind=1∧f.b.key=k:=by
 unfold mapK
 rw[List.mem_map]
 constructor
 ·rintro⟨f,hf,rfl⟩
  obtain⟨h1,h2⟩:=List.mem_filter.1 hf
  exact⟨f,h1,by simpa using h2,rfl⟩
 ·rintro⟨f,hf,h1,rfl⟩
  exact⟨f,List.mem_filter.2 ⟨hf,by simpa using h1⟩,rfl⟩
theorem ovBad_eq (L:List Slb)(f:Fnd):ovBad L f=(badR f||decide ((markF L f.line f.b.cls).2≠0)):=by unfold ovBad badR;rfl
theorem bad_kind {f:Fnd}(h:badR f=false):f.b.kind=1∨f.b.kind=2:=by
 unfold badR at h
 simp only[Bool.or_eq_false_iff,Bool.and_eq_false_iff,decide_eq_false_iff_not,ne_eq,Decidable.not_not] at h
 exact h.2
theorem key_there {Fs:List Fnd}{c:OvC}{f:Fnd}(h:OvM Fs c)(hall:∀g∈Fs,badR g=false)(hk:f.b.kind=1)(hq:∀l∈tLinks c.Tz,∃g∈Fs,l=lkOf g∧g.b.kind=1):(tGet c.Tz f.b.key).isSome=true↔f.b.key∈mapK Fs:=by
 rw[tGet_no h.i.ti,mapK_mem]
 constructor
 ·rintro⟨l,hl,e⟩
  obtain⟨g,hg,rfl,hgk⟩:=hq l hl
  exact⟨g,hg,hgk,e⟩
 ·rintro⟨g,hg,hgk,e⟩
  exact⟨lkOf g,h.m g hg hgk,e⟩
structure OvN (Fs:List Fnd)(c:OvC):Prop where
 o:OvM Fs c
 q:∀l∈tLinks c.Tz,∃g∈Fs,l=lkOf g∧g.b.kind=1
 b:∀g∈Fs,badR g=false
 d:(mapK Fs).Nodup
theorem ovN0 (n:Nat):OvN [] (ovC0 n):=by
 have e:tLinks tb0=[]:=rfl
 exact⟨⟨ovC0_inv n,fun f hf=>(by cases hf)⟩,fun l hl=>(by have h8:l∈tLinks tb0:=hl;rw[e] at h8;cases h8),fun g hg=>(by cases hg),.nil⟩
theorem ovN_step {Fs:List Fnd}{c c':OvC}{f:Fnd}(h:OvN Fs c)(ho:ov1 c f=some c'):OvN (Fs++[f]) c':=by
 have hi:=ov1_inv h.o.i ho
 have hbf:badR f=false:=by
  unfold ov1 at ho
  split at ho
  ·cases ho
  ·rename_i hb
   rw[ovBad_eq] at hb
   cases e:badR f with
   |false=>rfl
   |true=>rw[e] at hb;simp at hb
 have hb2:∀g∈Fs++[f],badR g=false:=fun g hg=>by
  rcases List.mem_append.1 hg with h8|h8
  ·exact h.b g h8
  ·rw[List.mem_singleton] at h8;rw[h8];exact hbf
 have hup:∀{P:Fnd→Prop},(∃g∈Fs,P g)→∃g∈Fs++[f],P g:=fun⟨g,hg,hp⟩=>⟨g,List.mem_append_left _ hg,hp⟩
 unfold ov1 at ho
 split at ho
 ·cases ho
 ·split at ho
  ·rename_i hk
   simp only[Option.some.injEq] at ho
   subst ho
   refine⟨⟨hi,fun g hg hgk=>?_⟩,fun l hl=>hup (h.q l hl),hb2,?_⟩
   ·rcases List.mem_append.1 hg with h8|h8
    ·exact h.o.m g h8 hgk
    ·rw[List.mem_singleton] at h8;rw[h8] at hgk;omega
   ·rw[mapK_snoc,if_neg om_,List.append_nil];exact h.d
  ·rename_i hk
   split at ho
   ·cases ho
   ·rename_i hg
    have hk1:f.b.kind=1:=by rcases bad_kind hbf with h8|h8;exact h8;exact absurd h8 hk
    simp only[Option.some.injEq] at ho
    subst ho
    have hno:(tGet c.Tz (lkOf f).key).isSome=false:=by show(tGet c.Tz f.b.key).isSome=false;simpa using hg
    obtain⟨_,h2⟩:=tSet_inv (x:=lkOf f) h.o.i.ti hno
    refine⟨⟨hi,fun g hg2 hgk=>?_⟩,fun l hl=>?_,hb2,?_⟩
    ·rcases List.mem_append.1 hg2 with h8|h8
     ·exact h2.symm.subset (List.mem_append_left _ (h.o.m g h8 hgk))
     ·rw[List.mem_singleton] at h8;rw[h8];exact h2.symm.subset (List.mem_append_right _ (by simp))
    ·rcases List.mem_append.1 (h2.subset hl) with h8|h8
     ·exact hup (h.q l h8)
     ·rw[List.mem_singleton] at h8;exact⟨f,by simp,h8,hk1⟩
    ·rw[mapK_snoc,if_pos hk1,List.nodup_append]
     refine⟨h.d,by simp,fun a ha b hb=>?_⟩
     rw[List.mem_singleton] at hb
     intro e
     rw[e,hb] at ha
     have h8:=(key_there h.o h.b hk1 h.q).2 ha
     rw[show(tGet c.Tz f.b.key).isSome=false from hno] at h8
     cases h8
theorem ovN_all:∀{Gs Fs:List Fnd} {c c':OvC},OvN Fs c→ovAll c Gs=some c'→OvN (Fs++Gs) c'
 |[],Fs,c,c',h,ho=>by
  simp only[ovAll,Option.some.injEq] at ho
  subst ho
  simpa using h
 |f::r,Fs,c,c',h,ho=>by
  unfold ovAll at ho
  split at ho
  ·cases ho
  ·rename_i c1 h1
   have h8:=ovN_all (ovN_step h h1) ho
   simpa using h8
theorem ov_lock:∀{Gs Fs:List Fnd} {c:OvC} {r:ROv},OvN Fs c→ORel c r→(∀f∈Gs,badR f=false)→(mapK (Fs++Gs)).Nodup→(ovAll c Gs=none∧rovAll c.L.length r Gs=none)∨∃c' r',ovAll c Gs=some c'∧rovAll c.L.length r Gs=some r'∧ORel c' r'
 |[],Fs,c,r,_,hr,_,_=> .inr ⟨c,r,rfl,rfl,hr⟩
 |f::Gs,Fs,c,r,h,hr,hb,hd=>by
  have hbf:=hb f List.mem_cons_self
  obtain⟨m1,m2⟩:=mark_rel hr.pl f.line f.b.cls
  unfold ovAll rovAll
  by_cases hm:(markF c.L f.line f.b.cls).2=0
  ·have hob:ovBad c.L f=false:=by rw[ovBad_eq,hbf,decide_eq_false (by simpa using hm)];rfl
   have hlen:∀{L:List Slb},L=(markF c.L f.line f.b.cls).1→L.length=c.L.length:=fun e=>by rw[e];exact markF_len _ _ _
   have hsplit:Fs++f::Gs=(Fs++[f])++Gs:=by simp
   have hr1:rov1 c.L.length r f=some ⟨(markT c.L.length r.T f.line f.b.cls).1,imax r.id f.b.id,imax r.ver f.b.ver,if f.b.kind=1 then setR r.tl (lkOf f) else r.tl,if f.b.kind=1 then r.q else behF r.q (lkOf f)⟩:=by
    unfold rov1
    rw[if_neg (by rw[m1,hm];simp)]
   rw[hr1]
   by_cases hk:f.b.kind=2
   ·have ho:ov1 c f=some ⟨(markF c.L f.line f.b.cls).1,c.Tz,c.D,c.q++[lkOf f],imax c.id f.b.id,imax c.ver f.b.ver⟩:=by unfold ov1;rw[if_neg (by rw[hob];decide),if_pos hk]
    rw[ho]
    simp only
    rw[if_neg om_,if_neg om_]
    have h8:=ov_lock (Gs:=Gs) (Fs:=Fs++[f]) (ovN_step h ho) (r:=⟨(markT c.L.length r.T f.line f.b.cls).1,imax r.id f.b.id,imax r.ver f.b.ver,r.tl,behF r.q (lkOf f)⟩) ⟨m2,by simp only;rw[hr.id],by simp only;rw[hr.ver],hr.tp,hr.tu,behF_sta hr.qs hr.qu,behF_up hr.qu⟩ (fun g hg=>hb g (List.mem_cons_of_mem _ hg)) (by rw[← hsplit];exact hd)
    rw[hlen rfl] at h8
    exact h8
   ·have hk1:f.b.kind=1:=by rcases bad_kind hbf with h8|h8;exact h8;exact absurd h8 hk
    have hno:(tGet c.Tz f.b.key).isSome=false:=by
     cases e:(tGet c.Tz f.b.key).isSome with
     |false=>rfl
     |true=>
      exfalso
      have h9:=(key_there h.o h.b hk1 h.q).1 e
      rw[hsplit] at hd
      have hd2:(mapK (Fs++[f])).Nodup:=by
       unfold mapK at hd⊢
       rw[List.filter_append,List.map_append] at hd
       exact(List.nodup_append.1 hd).1
      rw[mapK_snoc,if_pos hk1,List.nodup_append] at hd2
      exact hd2.2.2 _ h9 _ (by simp) rfl
    have ho:ov1 c f=some ⟨(markF c.L f.line f.b.cls).1,tSet c.Tz (lkOf f),oset c.D (lkOf f),c.q,imax c.id f.b.id,imax c.ver f.b.ver⟩:=by unfold ov1;rw[if_neg (by rw[hob];decide),if_neg hk,if_neg (by rw[hno];decide)]
    obtain⟨_,h2⟩:=tSet_inv (x:=lkOf f) h.o.i.ti (show(tGet c.Tz f.b.key).isSome=false from hno)
    have hnk:∀y∈r.tl,y.key≠(lkOf f).key:=fun y hy e=>by
     have:=(tGet_no h.o.i.ti f.b.key).2 ⟨y,hr.tp.subset hy,e⟩
     rw[hno] at this
     cases this
    rw[ho]
    simp only
    rw[if_pos hk1,if_pos hk1,setR_new hnk]
    have h8:=ov_lock (Gs:=Gs) (Fs:=Fs++[f]) (ovN_step h ho) (r:=⟨(markT c.L.length r.T f.line f.b.cls).1,imax r.id f.b.id,imax r.ver f.b.ver,insK r.tl (lkOf f),r.q⟩) ⟨m2,by simp only;rw[hr.id],by simp only;rw[hr.ver],(insK_perm.trans ((hr.tp.cons _).trans (List.perm_append_singleton _ _).symm)).trans h2.symm,insK_up hr.tu,hr.qs,hr.qu⟩ (fun g hg=>hb g (List.mem_cons_of_mem _ hg)) (by rw[← hsplit];exact hd)
    rw[hlen rfl] at h8
    exact h8
  ·left
   have hob:ovBad c.L f=true:=by rw[ovBad_eq,decide_eq_true hm];simp
   have ho:ov1 c f=none:=by unfold ov1;rw[if_pos hob]
   have hr1:rov1 c.L.length r f=none:=by unfold rov1;rw[if_pos (by rw[m1];exact hm)]
   rw[ho,hr1]
   exact⟨rfl,rfl⟩
theorem orel0 {n:Nat}(h:10≤n):ORel (ovC0 n) rov0:=by
 have h8:=slabs_rng h
 have e:tLinks tb0=[]:=rfl
 exact⟨prel0 om_,rfl,rfl,by show([]:List Lk).Perm (tLinks tb0);rw[e],.nil,Stb.Sta.refl _,.nil⟩
theorem over_ref {n:Nat}(h:10≤n)(Fs:List Fnd):rovE n Fs=ovE n Fs∧(ovE n Fs=0→∃c r,ovAll (ovC0 n) Fs=some c∧rovAll (slabsF n).toNat rov0 Fs=some r∧ORel c r):=by
 have hlen:(ovC0 n).L.length=(slabsF n).toNat:=by simp[ovC0]
 unfold rovE ovE fitsF
 by_cases hf:ovFar Fs=true
 ·rw[if_pos hf,if_pos hf]
  exact⟨by simp,fun h8=>absurd h8 (by decide)⟩
 rw[if_neg hf,if_neg hf]
 by_cases hbd:Fs.any badR=true∨¬(mapK Fs).Nodup
 ·rw[if_pos hbd]
  have hnone:ovAll (ovC0 n) Fs=none:=by
   cases e:ovAll (ovC0 n) Fs with
   |none=>rfl
   |some c=>
    exfalso
    have h8:=ovN_all (ovN0 n) e
    rw[List.nil_append] at h8
    rcases hbd with h9|h9
    ·rw[List.any_eq_true] at h9
     obtain⟨f,hf2,hb⟩:=h9
     rw[h8.b f hf2] at hb
     cases hb
    ·exact h9 h8.d
  rw[hnone]
  exact⟨by simp,fun h8=>absurd h8 (by simp)⟩
 rw[if_neg hbd]
 have hb:∀f∈Fs,badR f=false:=fun f hf2=>by
  cases e:badR f with
  |false=>rfl
  |true=>exact absurd (.inl (List.any_eq_true.2 ⟨f,hf2,e⟩)) hbd
 have hd:(mapK ([]++Fs)).Nodup:=by
  rw[List.nil_append]
  exact Decidable.not_not.1 fun e=>hbd (.inr e)
 rcases ov_lock (ovN0 n) (orel0 h) hb hd with⟨e1,e2⟩|⟨c,r,e1,e2,e3⟩
 ·rw[hlen] at e2
  rw[e1,e2]
  exact⟨by simp,fun h8=>absurd h8 (by simp)⟩
 ·rw[hlen] at e2
  rw[e1,e2]
  exact⟨by simp,fun _=>⟨c,r,rfl,rfl,e3⟩⟩
end
section
attribute [local irreducible] V.CW V.LW V.QW V.RW V.PQ V.Val V.Eff V.Qcall
open V (str byC ownV ownG ownS ownOk)
theorem bsGo_ok {l:List Lk}{key:List UInt8}(hu:UpL l):∀(f i j:Nat),j-i≤f→i≤j→j≤l.length→(∀k x,k<i→l[k]? =some x→x.key<key)→(∀k x,j≤k→l[k]? =some x→¬x.key<key)→(∀k x,k<bsGo l key f i j→l[k]? =some x→x.key<key)∧(∀k x,bsGo l key f i j≤k→l[k]? =some x→¬x.key<key)
 |0,i,j,hf,hij,hj,h1,h2=>by
  have e:i=j:=by omega
  subst e
  exact⟨h1,h2⟩
 |f+1,i,j,hf,hij,hj,h1,h2=>by
  unfold bsGo
  split
  ·rename_i hlt
   have hm:(i+j)/2<l.length:=by omega
   obtain⟨x,hx⟩:∃x,l[(i+j)/2]? =some x:=⟨l[(i+j)/2],List.getElem?_eq_getElem hm⟩
   rw[hx,Option.getD_some]
   have hp:=List.pairwise_iff_getElem.1 hu
   have hxe:=(List.getElem?_eq_some_iff.1 hx).2
   split
   ·rename_i hk
    refine bsGo_ok hu f ((i+j)/2+1) j om_ om_ hj (fun k y hk2 hy=>?_) h2
    obtain⟨hkl,hye⟩:=List.getElem?_eq_some_iff.1 hy
    by_cases e:k=(i+j)/2
    ·subst e
     rw[hx,Option.some.injEq] at hy
     rw[← hy];exact hk
    ·have h3:=hp k ((i+j)/2) hkl hm om_
     rw[hye,hxe] at h3
     have h4:y.key≤x.key:=List.not_lt.1 h3
     exact List.lt_of_le_of_lt h4 hk
   ·rename_i hk
    refine bsGo_ok hu f i ((i+j)/2) om_ om_ om_ h1 fun k y hk2 hy=>?_
    obtain⟨hkl,hye⟩:=List.getElem?_eq_some_iff.1 hy
    by_cases e:k=(i+j)/2
    ·subst e
     rw[hx,Option.some.injEq] at hy
     rw[← hy];exact hk
    ·have h3:=hp ((i+j)/2) k hm hkl om_
     rw[hye,hxe] at h3
     have h4:x.key≤y.key:=List.not_lt.1 h3
     exact fun h5=>hk (List.lt_of_le_of_lt h4 h5)
  ·rename_i hlt
   have e:i=j:=by omega
   subst e
   exact⟨h1,h2⟩
theorem posF_ok {l:List Lk}(hu:UpL l)(key:List UInt8):(∀k x,k<posF l key→l[k]? =some x→x.key<key)∧(∀k x,posF l key≤k→l[k]? =some x→¬x.key<key):=by
 unfold posF
 exact bsGo_ok hu _ _ _ om_ om_ (Nat.le_refl _) (fun k x hk=>absurd hk om_) fun k x hk hx=>absurd (List.getElem?_eq_some_iff.1 hx).1 om_
theorem setL_new {l:List Lk}{x:Lk}(h:∀y∈l,y.key≠x.key):setL l x=insL l (posF l x.key) x:=by
 unfold setL
 rw[if_neg]
 unfold hasF
 rw[Bool.and_eq_true,decide_eq_true_eq,decide_eq_true_eq]
 rintro⟨h1,h2⟩
 rw[List.getElem?_eq_getElem h1,Option.getD_some] at h2
 exact h _ (List.getElem_mem h1) h2
theorem insL_perm (l:List Lk)(i:Nat)(x:Lk):(insL l i x).Perm (l++[x]):=by
 unfold insL
 have e:l++[x]=l.take i++(l.drop i++[x]):=by rw[← List.append_assoc,List.take_append_drop]
 rw[e]
 exact(List.perm_append_singleton x (l.drop i)).symm.append_left _
theorem setL_up {l:List Lk}{x:Lk}(hu:UpL l)(h:∀y∈l,y.key≠x.key):UpL (setL l x)∧(setL l x).Perm (l++[x]):=by
 rw[setL_new h]
 refine⟨?_,insL_perm _ _ _⟩
 obtain⟨h1,h2⟩:=posF_ok hu x.key
 have ht:∀a∈l.take (posF l x.key),a.key<x.key:=fun a ha=>by
  obtain⟨k,hk⟩:=List.mem_iff_getElem?.1 ha
  have hkl:=(List.getElem?_eq_some_iff.1 hk).1
  rw[List.length_take] at hkl
  rw[List.getElem?_take_of_lt om_] at hk
  exact h1 k a om_ hk
 have hd:∀a∈l.drop (posF l x.key),¬a.key<x.key:=fun a ha=>by
  obtain⟨k,hk⟩:=List.mem_iff_getElem?.1 ha
  rw[List.getElem?_drop] at hk
  exact h2 _ a om_ hk
 have hsp:UpL (l.take (posF l x.key)++l.drop (posF l x.key)):=by rw[List.take_append_drop];exact hu
 unfold UpL at hsp⊢
 rw[List.pairwise_append] at hsp
 unfold insL
 rw[List.pairwise_append]
 refine⟨hsp.1,List.pairwise_cons.2 ⟨fun a ha=>hd a ha,hsp.2.1⟩,fun a ha b hb=>?_⟩
 rcases List.mem_cons.1 hb with rfl|hb
 ·exact fun e=>List.lt_irrefl _ (List.lt_trans e (ht a ha))
 ·exact hsp.2.2 a ha b hb
structure OvD (c:OvC):Prop where
 get:∃d,c.D[0]? =some d∧UpL d∧d.Perm (tLinks c.Tz)
theorem ovD0 (n:Nat):OvD (ovC0 n):=⟨[],rfl,.nil,by show([]:List Lk).Perm (tLinks tb0);rw[show tLinks tb0=[] from rfl]⟩
theorem ovD_step {Fs:List Fnd}{c c':OvC}{f:Fnd}(h:OvN Fs c)(hd:OvD c)(ho:ov1 c f=some c'):OvD c':=by
 obtain⟨d,h1,h2,h3⟩:=hd.get
 unfold ov1 at ho
 split at ho
 ·cases ho
 ·split at ho
  ·simp only[Option.some.injEq] at ho
   subst ho
   exact⟨d,h1,h2,h3⟩
  ·split at ho
   ·cases ho
   ·rename_i hg
    simp only[Option.some.injEq] at ho
    subst ho
    have hno:(tGet c.Tz (lkOf f).key).isSome=false:=by show(tGet c.Tz f.b.key).isSome=false;simpa using hg
    obtain⟨_,h4⟩:=tSet_inv (x:=lkOf f) h.o.i.ti hno
    have hnk:∀y∈d,y.key≠(lkOf f).key:=fun y hy e=>by
     have:=(tGet_no h.o.i.ti (lkOf f).key).2 ⟨y,h3.subset hy,e⟩
     rw[hno] at this
     cases this
    obtain⟨u1,u2⟩:=setL_up h2 hnk
    refine⟨setL d (lkOf f),?_,u1,u2.trans ((h3.append_right _).trans h4.symm)⟩
    show(oset c.D (lkOf f))[0]? =_
    unfold oset setTo
    rw[List.getElem?_mapIdx,h1]
    simp only[Option.map_some]
    rw[if_pos (by have:=(levF_rng (lkOf f).key).1;omega)]
theorem ovD_all:∀{Gs Fs:List Fnd} {c c':OvC},OvN Fs c→OvD c→ovAll c Gs=some c'→OvD c'
 |[],Fs,c,c',_,hd,ho=>by
  simp only[ovAll,Option.some.injEq] at ho
  subst ho;exact hd
 |f::r,Fs,c,c',h,hd,ho=>by
  unfold ovAll at ho
  split at ho
  ·cases ho
  ·rename_i c1 h1
   exact ovD_all (ovN_step h h1) (ovD_step h hd h1) ho
theorem ova_ref {th n:Nat}(h10:10≤n){e0:Int}{Fs:List Fnd}{y:ArR×ArS}(h:OvA th n e0 Fs y):∃r:ROv,rovAll (slabsF n).toNat rov0 Fs=some r∧rovE n Fs=0∧y.2.id=r.id∧y.2.ver=r.ver∧tkL y.2.L y.2.L.length=r.T∧rgQ y.2.rg=r.q∧(∀L:List Lk,L.Perm (tLinks y.2.Tz)→UpL L→L=r.tl)∧(y.2.Lz.map Prod.fst)[0]? =some r.tl∧y.2.ef=[]∧y.2.bg=[]∧y.2.rd=⟨1,List.replicate th 0⟩∧y.2.ck=(ar0 th n e0).ck:=by
 obtain⟨c,hc,Lz,rg,ro,hs,hD,hsta,hup,hok⟩:=h.get y.1 y.2 rfl
 have hz:ovE n Fs=0:=by
  have:=h.ok
  simp only[Option.isSome_some] at this
  simpa using this.symm
 obtain⟨e1,e2⟩:=over_ref h10 Fs
 obtain⟨c2,r,hc2,hr,hrel⟩:=e2 hz
 rw[hc,Option.some.injEq] at hc2
 subst hc2
 have hN:=ovN_all (ovN0 n) hc
 have hDd:=ovD_all (ovN0 n) (ovD0 n) hc
 rw[List.nil_append] at hN
 obtain⟨d,d1,d2,d3⟩:=hDd.get
 have htl:∀L:List Lk,L.Perm (tLinks c.Tz)→UpL L→L=r.tl:=fun L h1 h2=>upL_uniq (h1.trans hrel.tp.symm) h2 hrel.tu (fun a ha=>h1.subset ha) hN.o.i.ti.nd
 refine⟨r,hr,by rw[e1];exact hz,?_,?_,?_,?_,?_,?_,?_,?_,?_,?_⟩
 ·rw[hs,hrel.id];rfl
 ·rw[hs,hrel.ver];rfl
 ·rw[hs];exact hrel.pl.eq.symm
 ·rw[hs]
  show rgQ rg=r.q
  exact Stb.sta_uniq (Stb.Sta.trans ⟨hsta.1.symm,fun k=>(hsta.2 k).symm⟩ hrel.qs) hup hrel.qu
 ·rw[hs];exact htl
 ·rw[hs]
  show(Lz.map Prod.fst)[0]? =some r.tl
  rw[hD,d1,htl d d3 d2]
 ·rw[hs];rfl
 ·rw[hs];rfl
 ·rw[hs];rfl
 ·rw[hs];rfl
end
section
attribute [local irreducible] V.CW V.LW V.QW V.RW V.PQ V.Val V.Eff V.Qcall
open V (str byC ownV ownG ownS ownOk)
end
section
attribute [local irreducible] V.CW V.LW V.QW V.RW V.PQ V.Val V.Eff V.Qcall
open V (str byC ownV ownG ownS ownOk)
instance:Cal Tryz.prog 85:=⟨Tryz.call85⟩
instance:Cal Tryz.prog 139:=⟨Tryz.call139⟩
instance:Cal Tryz.prog 183:=⟨Tryz.call183⟩
theorem and_one {c:Int}(h:0≤c∧c<4294967296):IntKind.u32.wrap (BitVec.ofInt IntKind.u32.bits c&&& BitVec.ofInt IntKind.u32.bits 1).toNat=c.tmod 2:=by
 obtain⟨n,rfl⟩:∃n:Nat,c=n:=⟨c.toNat,by omega⟩
 have hb:IntKind.u32.bits=32:=rfl
 rw[hb,show(1:Int)=((1:Nat):Int) from rfl,BitVec.ofInt_natCast,BitVec.ofInt_natCast,BitVec.toNat_and,BitVec.toNat_ofNat,BitVec.toNat_ofNat,Nat.mod_eq_of_lt (show n<2^32 by omega),show(1:Nat)%2^32=1 by decide,Nat.and_one_is_mod,IntKind.wrap_u32,Int.tmod_eq_emod_of_nonneg om_]
 omega
theorem rstep_c (c:Int)(hc:0≤c∧c<4294967296)(b:UInt8):Rz Tryz.prog 183 [.int .u32 c,.int .u8 ((b.toNat:Nat):Int)] (.int .u32 (stepB c b)):=by
 intro w
 refine Cb_ Tryz.func183 rfl Tryz.ntmps183<|pA_ 10 ?_
 refine Lv (Val.xor rfl rfl)<|LW.re 10 (.int .u32 (xorI c (IntKind.u32.wrap ((b.toNat:Nat):Int)))) rfl rfl<|pA_ 10 ?_
 refine loopA (γ:=Nat) (fun k=>[(0,.int .u32 (stepK k (xorI c (IntKind.u32.wrap ((b.toNat:Nat):Int))))),(5,.int .i64 (k:Nat))]) (fun _=>[]) (fun k=>k≤8) (fun k=>8-k) (0) om_ fun k hk=>pA_ 7 ?_
 refine Cd_ rfl (fun h12=>?_) fun h12=>?_
 ·have hx:=stepK_rng (k:=k) (xorI_rng c (IntKind.u32.wrap ((b.toNat:Nat):Int)))
  refine pA_ 7 ?_
  refine Lv (Val.and rfl rfl)<|LW.re 16 (.int .u32 ((stepK k (xorI c (IntKind.u32.wrap ((b.toNat:Nat):Int)))).tmod 2)) rfl (by rw[and_one hx])<|pA_ 7 ?_
  refine Lv (Val.quo rfl rfl om_)<|pA_ 8 ?_
  refine Cd_ rfl (fun h20=>?_) fun h20=>?_
  ·have h20:(stepK k (xorI c (IntKind.u32.wrap ((b.toNat:Nat):Int)))).tmod 2=1:=by simpa using h20
   have e8:stepK (k+1) (xorI c (IntKind.u32.wrap ((b.toNat:Nat):Int)))=xorI (IntKind.u32.wrap ((stepK k (xorI c (IntKind.u32.wrap ((b.toNat:Nat):Int)))).tdiv 2)) 3988292384:=by
    show stepOne (stepK k (xorI c (IntKind.u32.wrap ((b.toNat:Nat):Int))))=_
    unfold stepOne;rw[if_neg om_]
   refine Rg<|Lv Mv<|Lv (Val.xor rfl rfl)<|LW.re 22 (.int .u32 (xorI (IntKind.u32.wrap ((stepK k (xorI c (IntKind.u32.wrap ((b.toNat:Nat):Int)))).tdiv 2)) 3988292384)) rfl rfl<|pA_ 9 ?_
   rw[← e8]
   exact roundA (k+1) om_ om_
  ·have h20:¬(stepK k (xorI c (IntKind.u32.wrap ((b.toNat:Nat):Int)))).tmod 2=1:=by simpa using h20
   have e8:stepK (k+1) (xorI c (IntKind.u32.wrap ((b.toNat:Nat):Int)))=IntKind.u32.wrap ((stepK k (xorI c (IntKind.u32.wrap ((b.toNat:Nat):Int)))).tdiv 2):=by
    have h21:(stepK k (xorI c (IntKind.u32.wrap ((b.toNat:Nat):Int)))).tmod 2=0:=by have:=Int.tmod_eq_emod_of_nonneg (a:=(stepK k (xorI c (IntKind.u32.wrap ((b.toNat:Nat):Int))))) (b:=2) hx.1;omega
    show stepOne (stepK k (xorI c (IntKind.u32.wrap ((b.toNat:Nat):Int))))=_
    unfold stepOne;rw[if_pos h21]
   refine pA_ 8 ?_
   rw[← e8]
   exact roundA (k+1) om_ om_
 ·refine pA_ 13 ?_
  obtain rfl:k=8:=by omega
  exact fb_
theorem rtext_c (l:List UInt8)(hl:l.length≤100000):Rz Tryz.prog 139 [str l] (.int .u32 (sumF l)):=by
 intro w
 refine Cb_ Tryz.func139 rfl Tryz.ntmps139<|pA_ 17 ?_
 refine loopA (γ:=Nat) (fun k=>[(0,str l),(3,.int .u32 ((l.take k).foldl stepB 4294967295)),(4,.int .i64 (k:Nat))]) (fun _=>[]) (fun k=>k≤l.length) (fun k=>l.length-k) (0) (Nat.zero_le _) fun k hk=>pA_ 9 ?_
 refine Cd_ rfl (fun h8=>?_) fun h8=>?_
 ·obtain⟨u,hu⟩:∃u,l[k]? =some u:=⟨l[k]'om_,by simp⟩
  have hst:(l.take (k+1)).foldl stepB 4294967295=stepB ((l.take k).foldl stepB 4294967295) u:=by rw[List.take_add_one,hu,Option.toList_some,List.foldl_append];rfl
  refine pA_ 8 ?_
  refine Lv (Val.indexStr (u:=u) rfl rfl Tryz.underlying9 hu)<|Le (Cz_ (rstep_c ((l.take k).foldl stepB 4294967295) (fold_rng _ om_) u)) fun _ _=>pA_ 9 ?_
  rw[← hst]
  exact roundA (k+1) om_ om_
 ·refine pA_ 8 ?_
  refine Lv (Val.xor rfl rfl)<|pA_ 5 ?_
  have hk9:k=l.length:=by omega
  have e8:IntKind.u32.wrap (BitVec.ofInt IntKind.u32.bits ((l.take k).foldl stepB 4294967295)^^^BitVec.ofInt IntKind.u32.bits 4294967295).toNat=sumF l:=by
   rw[hk9,List.take_length]
   unfold sumF
   rw[show xorI 0 4294967295=4294967295 by decide];rfl
  rw[e8]
  exact fb_
theorem rsum_c (l:List UInt8)(p:Option Addr)(c:Nat)(hl:l.length≤100000)(w:World)(hp:V.slAt w p 1 byE l):Calls Tryz.prog 135 [.slice p l.length c].toArray w fun e w'=>e= .returned (.int .u32 (sumF l))∧Below w.heap.size w w':=by
 refine Cb_ Tryz.func135 rfl Tryz.ntmps135<|pA_ 8 ?_
 refine Lv (Val.convSl (l:=l) rfl Tryz.underlying54 Tryz.underlying5 Tryz.underlying9 (fun w hw=>hw.slAt hp (by simp[ids])))<|Le (Cz_ (rtext_c l hl)) fun _ _=>pA_ 5 ?_
 exact fb_
def restF (v:Int):Nat→Int
 |0=>v
 |k+1=>IntKind.u64.wrap ((restF v k).tdiv 256)
theorem rest_eq {v:Int}(h:0≤v∧v<18446744073709551616):∀k,restF v k=((v.toNat/256^k:Nat):Int)
 |0=>by simp[restF];omega
 |k+1=>by
  have h8:v.toNat/256^k≤v.toNat:=Nat.div_le_self _ _
  rw[restF,rest_eq h k,Nat.pow_succ,← Nat.div_div_eq_div_mul]
  generalize v.toNat/256^k=m at*
  rw[Int.tdiv_eq_ediv_of_nonneg om_,IntWalk.u64_in _ om_]
  omega
theorem rest_lay {v:Int}(h:0≤v∧v<18446744073709551616)(k:Nat):IntKind.u8.wrap (restF v k)=(((layB v k).toNat:Nat):Int):=by
 rw[rest_eq h,IntKind.wrap_u8]
 unfold layB
 rw[UInt8.toNat_ofNat',Nat.mod_mod]
 omega
theorem rlay_c (n:Nat)(v:Int)(hn:n≤8)(hv:0≤v∧v<18446744073709551616):Mz Tryz.prog 72 [.int .i64 (n:Nat),.int .u64 v] (fun o:V.OwnO=>ownOk 1 n (byC (layF n v)) o) (fun o=>ownV n o) (fun o=>[ownG 5 (byC (layF n v)) o]):=by
 intro w
 refine Cb_ Tryz.func72 rfl Tryz.ntmps72<|pA_ 17 ?_
 refine V.CW.perm (sg':=[ownG 5 (byC (layF 0 v)) none]) ?_ (.refl _)
 refine loopA (γ:=Nat×V.OwnO) (fun k=>[(0,.int .i64 (n:Nat)),(1,.int .u64 (restF v k.1)),(5,ownV k.1 k.2),(6,.int .i64 (k.1:Nat))]) (fun k=>[ownG 5 (byC (layF k.1 v)) k.2]) (fun k=>k.1≤n∧ownOk 1 k.1 (byC (layF k.1 v)) k.2) (fun k=>n-k.1) ((0,none)) ⟨Nat.zero_le _,rfl,rfl⟩ fun k=>?_
 rintro⟨hk1,hk2⟩
 refine pA_ 8 ?_
 refine Cd_ rfl (fun h9=>?_) fun h9=>?_
 ·refine Sk<|Ps<|Sq<|Bk<|Sq<|Rg<|Lv Mv<|Lv Mv<|Lv Cv<|LW.re 14 (.int .u8 (((layB v k.1).toNat:Nat):Int)) rfl (by rw[rest_lay hv])<|Le (Eff.buildSlice (rfl) [_] Tryz.underlying54 Tryz.sizeOf5 (by exact Tryz.zeroValue5) rfl rfl rfl rfl (by rfl)) fun b15 _=>Le (Eff.appendAny (byC ([layB v k.1])) (sz:=1) (bytes:=1) (z:= .int .u8 0) (xs:=byC ((layF k.1 v))) (m0:=k.1) (o:=k.2) (m:=1) (pk:=[ownG 5 (byC ((layF k.1 v))) (k.2)]) rfl rfl Tryz.underlying54 kr_ rfl om_ pk_ (by simp) hk2 (by rfl) (fun hm0=>⟨b15,0,rfl,fun w hw=>V.range_of_block (o:=0) (cs:=byC [layB v k.1]) (r:=[]) (hw.own _ (show InS (b15,.cells (byC [layB v k.1]).toArray 5 (0,0)) _ from in_).mem) rfl⟩) (V.byC_one _) om_ om_) fun o2 ho2=>?_
  rw[← V.byC_append,← layF_succ] at*
  refine pA_ 5 ?_
  refine Lv (Val.quo rfl rfl om_)<|pA_ 9 ?_
  exact roundA ((k.1+1,o2)) ⟨by simp only;omega,ho2⟩ (by simp only;omega)
 ·refine pA_ 13 ?_
  have hk9:k.1=n:=by omega
  rw[hk9] at hk2⊢
  exact fi_ k.2 hk2
theorem nmF_drop {l:List UInt8}{j:Nat}{u:UInt8}(h:l[j]? =some u):nmF (l.drop j)=u.toNat+256*nmF (l.drop (j+1)):=by
 obtain⟨hj,hv⟩:=List.getElem?_eq_some_iff.1 h
 rw[List.drop_eq_getElem_cons hj,hv];rfl
theorem nmF_le8 {l:List UInt8}(h:l.length≤8)(j:Nat):nmF (l.drop j)<18446744073709551616:=by
 have h1:=nmF_lt (l.drop j)
 have h2:256^(l.drop j).length≤256^8:=Nat.pow_le_pow_right om_ (by rw[List.length_drop];omega)
 have h3:(256:Nat)^8=18446744073709551616:=by decide
 omega
theorem rnum_c (l:List UInt8)(p:Option Addr)(c:Nat)(hl:l.length≤8)(w:World)(hp:V.slAt w p 1 byE l):Calls Tryz.prog 152 [.slice p l.length c].toArray w fun e w'=>e= .returned (.int .u64 ((nmF l:Nat):Int))∧Below w.heap.size w w':=by
 refine Cb_ Tryz.func152 rfl Tryz.ntmps152<|pA_ 15 ?_
 refine Lv (Val.ar (r:=(l.length:Nat)-1) rfl rfl rfl (IntWalk.i64_in _ om_))<|pA_ 4 ?_
 refine CW.loop (γ:=Nat) (fun k=>[(0,.slice p l.length c),(3,.int .u64 ((nmF (l.drop k):Nat):Int)),(4,.int .i64 (((k:Nat):Int)-1))]) (fun _=>[]) (fun k=>k≤l.length) (fun k=>k) (l.length) (Nat.le_refl _) (by refine⟨rfl,?_,rfl,trivial⟩;rw[List.drop_length];rfl) pk_ ?_
 intro k
 intro hk
 refine pA_ 7 ?_
 refine Cd_ rfl (fun h9=>?_) fun h9=>?_
 ·have hk0:1≤k:=by omega
  obtain⟨bb1,o1,u,rfl,hb1,hu,hr1⟩:=V.slAt_at hp rfl (k:=k-1) om_
  have hd:=nmF_drop hu
  rw[show k-1+1=k by omega] at hd
  have h8:=nmF_le8 hl (k-1)
  have h9:=nmF_le8 hl k
  have hu8:=u.toNat_lt
  refine pA_ 6 ?_
  refine Lv (Val.ar (r:=((nmF (l.drop k)*256:Nat):Int)) rfl rfl (by simp[arI]) (IntWalk.u64_in _ om_))<|Lv Mv<|Lv Mv<|Lv (Val.indexAddrN (i:=k-1) rfl (by rw[show((k:Nat):Int)-1=((k-1:Nat):Int) by omega];rfl) Tryz.underlying54 Tryz.sizeOf5 om_)<|Lv (Val.loadO rfl Tryz.isAgg5 hb1 (by simp[ids]) (hr1 (k-1) u hu 0 _ rfl))<|Lv Cv<|LW.re 18 (.int .u64 ((u.toNat:Nat):Int)) rfl (by rw[IntWalk.u64_in _ (by have:=u.toNat_lt;omega)])<|Lv (Val.ar (r:=((nmF (l.drop (k-1)):Nat):Int)) rfl rfl (by simp[arI];omega) (IntWalk.u64_in _ om_))<|pA_ 9 ?_
  refine PQ.round (k-1) om_ om_ (by refine⟨rfl,rfl,?_,trivial⟩;exact congrArg (fun z=>some (Value.int .i64 z)) om_) pk_
 ·refine pA_ 13 ?_
  have hk9:k=0:=by omega
  rw[hk9,List.drop_zero]
  exact fb_
theorem rspan_c (c:Int):Rz Tryz.prog 85 [.int .i64 c] (.int .i64 (spanF c:Nat)):=by
 intro w
 refine Cb_ Tryz.func85 rfl Tryz.ntmps85<|pA_ 18 ?_
 refine Cd_ rfl (fun h4=>?_) fun h4=>?_
 ·refine pA_ 9 ?_
  intro w' hw;exact⟨by have hs8:=spanF_cases c;congr 2;omega,hw.below⟩
 ·refine pA_ 6 ?_
  refine Cd_ rfl (fun h6=>?_) fun h6=>?_
  ·refine pA_ 9 ?_
   intro w' hw;exact⟨by have hs8:=spanF_cases c;congr 2;omega,hw.below⟩
  ·refine pA_ 6 ?_
   refine Cd_ rfl (fun h8=>?_) fun h8=>?_
   ·refine pA_ 9 ?_
    intro w' hw;exact⟨by have hs8:=spanF_cases c;congr 2;omega,hw.below⟩
   ·refine pA_ 6 ?_
    refine Cd_ rfl (fun h10=>?_) fun h10=>?_
    ·refine pA_ 9 ?_
     intro w' hw;exact⟨by have hs8:=spanF_cases c;congr 2;omega,hw.below⟩
    ·refine pA_ 10 ?_
     intro w' hw;exact⟨by have hs8:=spanF_cases c;congr 2;omega,hw.below⟩
theorem rcap_c (c:Int):Rz Tryz.prog 138 [.int .i64 c] (.int .i64 (capF c)):=by
 intro w
 refine Cb_ Tryz.func138 rfl Tryz.ntmps138<|pA_ 8 ?_
 refine Le (Cz_ (rspan_c c)) fun _ _=>pA_ 10 ?_
 refine Cd_ rfl (fun h7=>?_) fun h7=>?_
 ·refine pA_ 8 ?_
  intro w' hw;exact⟨by have hs8:=spanF_cases c;have hc8:=cap_cases c;congr 2;omega,hw.below⟩
 ·refine pA_ 3 ?_
  have hsp8:=span_le c
  refine pA_ 10 ?_
  intro w' hw;exact⟨by have hs8:=spanF_cases c;have hc8:=cap_cases c;congr 2;omega,hw.below⟩
end
section
attribute [local irreducible] V.CW V.LW V.QW V.RW V.PQ V.Val V.Eff V.Qcall
open V (str byC ownV ownG ownS ownOk)
instance:Und Tryz.prog 100 (dOf Tryz.underlying100):=⟨Tryz.underlying100⟩
instance:Siz Tryz.prog 100 (kOf Tryz.sizeOf100):=⟨Tryz.sizeOf100⟩
instance:AgF Tryz.prog 100:=⟨Tryz.isAgg100⟩
instance:Und Tryz.prog 102 (dOf Tryz.underlying102):=⟨Tryz.underlying102⟩
instance:Siz Tryz.prog 102 (kOf Tryz.sizeOf102):=⟨Tryz.sizeOf102⟩
instance:AgT Tryz.prog 102:=⟨Tryz.isAgg102⟩
instance:Und Tryz.prog 104 (dOf Tryz.underlying104):=⟨Tryz.underlying104⟩
instance:Und Tryz.prog 125 (dOf Tryz.underlying125):=⟨Tryz.underlying125⟩
instance:Siz Tryz.prog 125 (kOf Tryz.sizeOf125):=⟨Tryz.sizeOf125⟩
instance:AgT Tryz.prog 125:=⟨Tryz.isAgg125⟩
instance:Zer Tryz.prog 125 (zOf Tryz.zeroValue125):=⟨Tryz.zeroValue125⟩
instance:Und Tryz.prog 132 (dOf Tryz.underlying132):=⟨Tryz.underlying132⟩
instance:Cal Tryz.prog 70:=⟨Tryz.call70⟩
abbrev rdvS (x:DvR)(D:List Ce)(k:Cnt):Sg:=[[(x.db,.cells (dxC x D k).toArray 104 (0,0))],[(x.cb,.cells (cxC x D).toArray 132 (0,0))]]
abbrev rvS3 (x:DvR)(v:Dev):Sg:=rdvS x v.D v.k
theorem own_srcT {T:TypeId}{l:List UInt8}{y:V.OwnO}(hy:ownOk 1 l.length (byC l) y):∃(p:Option Addr) (c:Nat),ownV l.length y= .slice p l.length c∧l.length≤c∧∀{B:V.Base} {sg r:V.Sg} {w:World},Hp B sg w→Pick [ownG T (byC l) y] sg r→V.slAt w p 1 byE l:=by
 have hy2:ownOk 1 l.length (l.flatMap byE) y:=by rw[← byC_flat];exact hy
 obtain⟨p,c,h1,h3,h2⟩:=own_slg (e:=T) byE_len l y hy2
 exact⟨p,c,h1,h3 om_,fun hw hp=>h2 hw (by rw[← byC_flat];exact hp)⟩
theorem rhas_g (x:DvR)(D:List Ce)(k:Cnt)(line:Int)(w:World)(hB:w.heap[x.db]? =some (.cells (dxC x D k).toArray 104 (0,0))):Calls Tryz.prog 70 [.pointer (some ⟨x.db,0,none⟩),.int .i64 line].toArray w fun e w'=>e= .returned (.bool (inD D.length line))∧Below w.heap.size w w':=by
 refine Cb_ Tryz.func70 rfl Tryz.ntmps70<|pA_ 10 ?_
 refine LW.split (d:=7) rfl (fun h7=>?_) (fun h7=>?_)
 ·replace h7:=bT h7
  refine pA_ 4 ?_
  refine Lv (Val.loadO rfl Tryz.isAgg100 (V.lt_of_some hB) (by simp[ids]) (V.cell_of_block hB rfl))<|pA_ 8 ?_
  intro w' hw;exact⟨by unfold inD;first|(congr 2;rw[eq_comm,decide_eq_decide];omega)|(congr 2;first|exact(decide_eq_false om_).symm|exact(decide_eq_true om_).symm)|(simp_all;omega),hw.below⟩
 ·replace h7:=bF h7
  refine pA_ 13 ?_
  intro w' hw;exact⟨by unfold inD;first|(congr 2;rw[eq_comm,decide_eq_decide];omega)|(congr 2;first|exact(decide_eq_false om_).symm|exact(decide_eq_true om_).symm)|(simp_all;omega),hw.below⟩
theorem rload_g (x:DvR)(D:List Ce)(k:Cnt)(line:Int):Mo Tryz.prog 51 [.pointer (some ⟨x.db,0,none⟩),.int .i64 line] (rdvS x D k) (fun o:V.OwnO=>ownOk 1 (nowL D line).length (byC (nowL D line)) o) (fun o=> .tuple #[ownV (nowL D line).length o,.int .i64 (er2 (inD D.length line))]) (fun o=>ownG 125 (byC (nowL D line)) o::rdvS x D k):=by
 intro w hs
 refine Ca_ Tryz.func51 rfl Tryz.ntmps51 hs<|pA_ 11 ?_
 refine Le (CV fun w hw=>rhas_g x D k line w hw.at) fun _ _=>pA_ 3 ?_
 refine Cd_ rfl (fun h10=>?_) fun h10=>?_
 ·have hb:inD D.length line=false:=by simpa using h10
  have ho:=in_out hb
  refine pA_ 9 ?_
  rw[nowL_out ho,hb]
  intro w' hw;exact⟨none,⟨rfl,rfl⟩,rfl,hw.perm (.refl _)⟩
 ·have hin:inD D.length line=true:=by simpa using h10
  obtain⟨i,c,rfl,hc⟩:=in_get hin
  have hi:=(List.getElem?_eq_some_iff.1 hc).1
  have hmul:=Nat.mul_le_mul_right 193 (show i+1≤D.length from hi)
  refine pA_ 7 ?_
  refine Lv (Ld (v:= .slice (some ⟨x.cb,0,none⟩) D.length x.cap))<|Lv Mv<|Lv (Val.indexAddrN rfl rfl Tryz.underlying100 Tryz.sizeOf132 hi)<|LW.re 16 (.pointer (some ⟨x.cb,i*193,none⟩)) rfl (by simp)<|Lv (Fa 0 125)<|Lv (La (byC c.now.1) (r:=(cx_now (x:=x) hc).choose) (hl:=by simpa using(cx_now (x:=x) hc).choose_spec) (hs:=by rw[byC64];exact Tryz.sizeOf125))<|Le AA fun b6 _=>LeN (StW (cs:=byC c.now.1) (h1:=V.byC_one _) (hlen:=by rw[byC64];rfl) (hs:=by rw[byC64];exact Tryz.sizeOf125)) fun _ _=>pA_ 4 ?_
  refine Lv (Val.sliceArr 0 64 rfl Tryz.underlying125 Tryz.sizeOf5 rfl rfl om_ om_)<|pA_ 6 ?_
  rw[nowL_of hc,hin]
  intro w' hw;exact⟨some (b6,[],64),⟨by rw[byC64,c.now.2],by rw[byC64];rfl⟩,by rw[c.now.2];rfl,(hw.pick (ss:=[[(b6,.cells (byC c.now.1).toArray 125 (0,0))],[(x.db,.cells (dxC x D k).toArray 104 (0,0))],[(x.cb,.cells (cxC x D).toArray 132 (0,0))]]) pk_).perm (by simp[V.ownG,V.ownS])⟩
theorem rdur_g (x:DvR)(D:List Ce)(k:Cnt)(line:Int):Mo Tryz.prog 53 [.pointer (some ⟨x.db,0,none⟩),.int .i64 line] (rdvS x D k) (fun o:V.OwnO=>ownOk 1 (keptL D line).length (byC (keptL D line)) o) (fun o=> .tuple #[ownV (keptL D line).length o,.int .i64 (er2 (inD D.length line))]) (fun o=>ownG 125 (byC (keptL D line)) o::rdvS x D k):=by
 intro w hs
 refine Ca_ Tryz.func53 rfl Tryz.ntmps53 hs<|pA_ 11 ?_
 refine Le (CV fun w hw=>rhas_g x D k line w hw.at) fun _ _=>pA_ 3 ?_
 refine Cd_ rfl (fun h10=>?_) fun h10=>?_
 ·have hb:inD D.length line=false:=by simpa using h10
  have ho:=in_out hb
  refine pA_ 9 ?_
  rw[keptL_out ho,hb]
  intro w' hw;exact⟨none,⟨rfl,rfl⟩,rfl,hw.perm (.refl _)⟩
 ·have hin:inD D.length line=true:=by simpa using h10
  obtain⟨i,c,rfl,hc⟩:=in_get hin
  have hi:=(List.getElem?_eq_some_iff.1 hc).1
  have hmul:=Nat.mul_le_mul_right 193 (show i+1≤D.length from hi)
  refine pA_ 7 ?_
  refine Lv (Ld (v:= .slice (some ⟨x.cb,0,none⟩) D.length x.cap))<|Lv Mv<|Lv (Val.indexAddrN rfl rfl Tryz.underlying100 Tryz.sizeOf132 hi)<|LW.re 16 (.pointer (some ⟨x.cb,i*193,none⟩)) rfl (by simp)<|Lv (Fa 64 125)<|Lv (La (byC c.kept.1) (r:=(cx_kept (x:=x) hc).choose) (hl:=by simpa using(cx_kept (x:=x) hc).choose_spec) (hs:=by rw[byC64];exact Tryz.sizeOf125))<|Le AA fun b6 _=>LeN (StW (cs:=byC c.kept.1) (h1:=V.byC_one _) (hlen:=by rw[byC64];rfl) (hs:=by rw[byC64];exact Tryz.sizeOf125)) fun _ _=>pA_ 4 ?_
  refine Lv (Val.sliceArr 0 64 rfl Tryz.underlying125 Tryz.sizeOf5 rfl rfl om_ om_)<|pA_ 6 ?_
  rw[keptL_of hc,hin]
  intro w' hw;exact⟨some (b6,[],64),⟨by rw[byC64,c.kept.2],by rw[byC64];rfl⟩,by rw[c.kept.2];rfl,(hw.pick (ss:=[[(b6,.cells (byC c.kept.1).toArray 125 (0,0))],[(x.db,.cells (dxC x D k).toArray 104 (0,0))],[(x.cb,.cells (cxC x D).toArray 132 (0,0))]]) pk_).perm (by simp[V.ownG,V.ownS])⟩
end
section
attribute [local irreducible] V.CW V.LW V.QW V.RW V.PQ V.Val V.Eff V.Qcall
open V (str byC ownV ownG ownS ownOk)
theorem places104:∀w,((Array.mapM (fun(f:Field)=>do pure (f.offset,← sizeOf f.type)) (Tryz.prog.fieldsOf 104):Sem (Array (Nat×Nat)))).run Tryz.prog w= .ok [(0,1),(1,5)].toArray w:=by
 intro w;kernel_rfl
theorem rin_g (l:List Int)(p:Option Addr)(c:Nat)(x:Int)(hl:l.length≤100000)(w:World)(h:V.slAt w p 1 inI l):Calls Tryz.prog 58 [.slice p l.length c,.int .i64 x].toArray w fun e w'=>e= .returned (.bool (decide (x∈l)))∧Below w.heap.size w w':=by
 refine Cb_ Tryz.func58 rfl Tryz.ntmps58<|pA_ 12 ?_
 refine loopA (γ:=Nat) (fun k=>[(0,.slice p l.length c),(1,.int .i64 x),(5,.int .i64 (k:Nat))]) (fun _=>[]) (fun k=>k≤l.length∧x∉l.take k) (fun k=>l.length-k) (0) ⟨Nat.zero_le _,by simp⟩ fun k=>?_
 rintro⟨hk1,hk2⟩
 refine pA_ 9 ?_
 refine Cd_ rfl (fun h9=>?_) fun h9=>?_
 ·have hk9:k<l.length:=by omega
  obtain⟨bb1,o1,y,rfl,hb1,hx1,hr1⟩:=V.slAt_at h rfl (k:=k) hk9
  refine pA_ 9 ?_
  refine Lv (Val.loadO rfl Tryz.isAgg3 hb1 (by simp[ids]) (hr1 k y hx1 0 _ rfl))<|pA_ 4 ?_
  refine Cd_ rfl (fun h17=>?_) fun h17=>?_
  ·have h17:y=x:=h17
   refine pA_ 12 ?_
   rw[decide_eq_true (h17▸List.mem_of_getElem? hx1)]
   exact fb_
  ·have h17:¬y=x:=h17
   have hk3:x∉l.take (k+1):=by
    rw[List.take_add_one,hx1]
    simp[hk2,show ¬x=y from fun h=>h17 h.symm]
   refine pA_ 8 ?_
   exact roundA (k+1) ⟨by omega,hk3⟩ om_
 ·have hk9:l.length≤k:=by omega
  refine pA_ 12 ?_
  rw[decide_eq_false (by rw[List.take_of_length_le hk9] at hk2;exact hk2)]
  exact fb_
theorem rnewDev_g (n:Nat)(h1:1≤n)(h2:n≤258)(w:World):Calls Tryz.prog 27 [.int .i64 (n:Nat)].toArray w fun e w'=>∃y:DvR,True∧e= .returned (.tuple #[.pointer (some ⟨y.db,0,none⟩),.int .i64 0])∧Hp ⟨w,[]⟩ (rdvS y (List.replicate n ce0) ct0) w':=by
 refine Cb_ Tryz.func27 rfl Tryz.ntmps27<|pA_ 12 ?_
 refine LW.re 6 (.bool false) rfl (by congr 1;simp;omega)<|Lv Mv<|Lv Cm<|LW.re 8 (.bool false) rfl (by congr 1;simp;omega)<|pA_ 9 ?_
 refine Le (Eff.makeSlice (m:=n) (by_:=193) (zl:=ceC ce0) rfl rfl Tryz.underlying100 kr_ Tryz.sizeOf132 (by exact Tryz.zeroValue132) kr_ (ceC_len _) om_ om_ om_) fun b11 _=>?_
 rw[ce_rep]
 refine Lv (Val.build (.slice (some ⟨b11,0,none⟩) n n::ctC ct0) Tryz.zeroValue104 Tryz.underlying104 places104 rfl (by rfl))<|Le XA fun b13 _=>pA_ 6 ?_
 have hl:(List.replicate n ce0).length=n:=List.length_replicate
 intro w' hw
 exact⟨⟨b13,b11,[],n⟩,trivial,rfl,by unfold rdvS dxC cxC;rw[hl,List.append_nil];exact hw⟩
theorem rcopy_g (x:DvR)(D:List Ce)(k:Cnt)(h0:0<D.length)(hD:D.length≤1000):Mo Tryz.prog 39 [.pointer (some ⟨x.db,0,none⟩)] (rdvS x D k) (fun y:DvR=>True) (fun y=> .pointer (some ⟨y.db,0,none⟩)) (fun y=>rdvS y D k++rdvS x D k):=by
 intro w hs
 refine Ca_ Tryz.func39 rfl Tryz.ntmps39 hs<|Sq<|Rg<|Lv Av<|Nl<|Ps<|Sq<|Dr ((rdvS x D k))<|Rv 0 rfl Mv<|Rv 1 rfl Nz<|Rv 2 rfl (Fa 0 100)<|Rv 3 rfl (Ld (v:= .slice (some ⟨x.cb,0,none⟩) D.length x.cap))<|Rv 5 rfl Mv<|Rv 6 rfl Nz<|Rv 7 rfl (Fa 1 102)<|Rv 8 rfl (La (ctC k) (r:=[]) (hl:=by rfl))<|Re 4 rfl (Eff.appendAny (D.flatMap ceC) (sz:=193) (bytes:=193) (z:= .agg (ceC ce0).toArray) (xs:=[]) (m0:=0) (o:=none) (m:=D.length) (pk:=[]) rfl rfl Tryz.underlying100 kr_ (by simp[Value.cells,ceC_len]) om_ .nil rfl ⟨rfl,rfl⟩ (V.flatMap_len ceC_len _) (fun hm0=>⟨x.cb,0,rfl,fun w1 hw1=>V.range_of_block (o:=0) (r:=x.rest) (hw1.own _ (show InS (x.cb,.cells (cxC x D).toArray 132 (0,0)) _ from in_).mem) rfl⟩) (all_one ceC_one _) om_ om_) fun o ho=>?_
 have h2:ownOk 193 D.length (D.flatMap ceC) o:=by simpa using ho
 rw[List.nil_append,Nat.zero_add]
 obtain⟨gb,rest,cap,rfl⟩:∃g r c,o=some (g,r,c):=by
  rcases o with _|⟨g,r,c⟩
  ·exact absurd h2.2 om_
  ·exact⟨g,r,c,rfl⟩
 refine Rv 9 rfl (Val.build (.slice (some ⟨gb,0,none⟩) D.length cap::ctC k) Tryz.zeroValue104 Tryz.underlying104 places104 rfl (by rfl))<|Re 10 rfl XA fun b13 _=>Rv 11 rfl Av<|pA_ 4 ?_
 exact fi_ ⟨b13,gb,rest,cap⟩ trivial
theorem rflush_g (x:DvR)(D:List Ce)(k:Cnt)(line:Int):Mo Tryz.prog 43 [.pointer (some ⟨x.db,0,none⟩),.int .i64 line] (rdvS x D k) (fun _u:Unit=>True) (fun _=> .int .i64 (er2 (inD D.length line))) (fun _=>rdvS x (upD D line (fun c=>{c with way:=c.now,sent:=true})) (if inD D.length line=true then {k with b:=IntKind.i64.wrap (k.b+1)} else k)):=by
 intro w hs
 refine Ca_ Tryz.func43 rfl Tryz.ntmps43 hs<|pA_ 10 ?_
 refine Le (CV fun w hw=>rhas_g x D k line w hw.at) fun _ _=>pA_ 3 ?_
 refine Cd_ rfl (fun h8=>?_) fun h8=>?_
 ·have hb:inD D.length line=false:=by simpa using h8
  have ho:=in_out hb
  refine pA_ 8 ?_
  rw[upD_out ho,hb]
  exact fi_ () trivial
 ·have hin:inD D.length line=true:=by simpa using h8
  obtain⟨i,c,rfl,hc⟩:=in_get hin
  have hi:=(List.getElem?_eq_some_iff.1 hc).1
  have hmul:=Nat.mul_le_mul_right 193 (show i+1≤D.length from hi)
  have hc2:(D.set i (Ce.mk c.now c.kept c.now c.sent))[i]? =some (Ce.mk c.now c.kept c.now c.sent):=by rw[List.getElem?_set_self hi]
  refine pA_ 3 ?_
  refine Dr ([[(x.db,.cells (dxC x D k).toArray 104 (0,0))]])<|pR_ [0,1,2] ?_
  refine Rv 3 rfl (Ld (v:= .slice (some ⟨x.cb,0,none⟩) D.length x.cap))<|pR_ [4,5,6,7] ?_
  refine Rv 8 rfl (Ld (v:= .slice (some ⟨x.cb,0,none⟩) D.length x.cap))<|Rv 9 rfl Mv<|Rv 10 rfl (Val.indexAddrN rfl rfl Tryz.underlying100 Tryz.sizeOf132 hi)<|RW.re 19 (.pointer (some ⟨x.cb,i*193,none⟩)) rfl (by simp)<|Rv 11 rfl (Fa 0 125)<|Re 12 rfl (Eff.ofVal (La (byC c.now.1) (r:=(cx_now (x:=x) hc).choose) (hl:=by simpa using(cx_now (x:=x) hc).choose_spec) (hs:=by rw[byC64];exact Tryz.sizeOf125))) fun _ _=>Rv 13 rfl (Val.indexAddrN rfl rfl Tryz.underlying100 Tryz.sizeOf132 hi)<|Rv 14 rfl (Fa 128 125)<|ReN 15 rfl (Eff.storeA (cs:=byC c.now.1) (l:=cxC x D) (l':=cxC x (D.set i (Ce.mk c.now c.kept c.now c.sent))) rfl rfl up_ (by have h8:=cx_in (x:=x) hc (c':=(Ce.mk c.now c.kept c.now c.sent)) 128 (byC c.now.1) (ce_way c c.now) (by simp[byC64]);first|(rw[List.set_set] at h8;simpa using h8;done)|simpa using h8) (by rw[cx_len];simp[byC64];omega) (by rw[byC64];exact Tryz.sizeOf125) (V.byC_one _)) fun _ _=>pA_ 7 ?_
  refine Lv (Ld (v:= .slice (some ⟨x.cb,0,none⟩) D.length x.cap))<|Lv Mv<|Lv (Val.indexAddrN rfl rfl Tryz.underlying100 Tryz.sizeOf132 hi)<|Lv (Fa 192 4)<|LeN (Eff.storeX (v:= .bool true) (l:=cxC x (D.set i (Ce.mk c.now c.kept c.now c.sent))) (l':=cxC x (D.set i (Ce.mk c.now c.kept c.now true))) rfl rfl rfl up_ (by have h8:=cx_in (x:=x) hc2 (c':=(Ce.mk c.now c.kept c.now true)) 192 [.bool true] (ce_sent (Ce.mk c.now c.kept c.now c.sent) true) (by simp);rw[List.set_set] at h8;simpa[V.splice] using h8) (by rw[cx_len];simp;omega) Tryz.sizeOf4) ?_
  intro _ _
  refine pA_ 8 ?_
  refine Lv (Ld (v:= .int .i64 k.b))<|Lv (Val.arw rfl rfl rfl)<|pA_ 3 ?_
  refine LeN (Eff.storeX (v:= .int .i64 (IntKind.i64.wrap (k.b+1))) (l:=dxC x D k) (l':=dxC x D {k with b:=IntKind.i64.wrap (k.b+1)}) rfl rfl rfl up_ rfl (by show _<6;omega) Tryz.sizeOf3) fun _ _=>pA_ 9 ?_
  rw[upD_set hc,hin]
  intro w' hw;exact⟨(),trivial,rfl,by unfold rdvS dxC;rw[List.length_set];exact hw.pick pk_⟩
theorem rback_g (x:DvR)(D:List Ce)(k:Cnt)(line:Int):Mo Tryz.prog 32 [.pointer (some ⟨x.db,0,none⟩),.int .i64 line] (rdvS x D k) (fun _u:Unit=>True) (fun _=> .int .i64 (er2 (inD D.length line))) (fun _=>rdvS x (upD D line (fun c=>{c with kept:=c.now,sent:=false})) (if inD D.length line=true then {k with d:=IntKind.i64.wrap (k.d+1)} else k)):=by
 intro w hs
 refine Ca_ Tryz.func32 rfl Tryz.ntmps32 hs<|pA_ 10 ?_
 refine Le (CV fun w hw=>rhas_g x D k line w hw.at) fun _ _=>pA_ 3 ?_
 refine Cd_ rfl (fun h8=>?_) fun h8=>?_
 ·have hb:inD D.length line=false:=by simpa using h8
  have ho:=in_out hb
  refine pA_ 8 ?_
  rw[upD_out ho,hb]
  exact fi_ () trivial
 ·have hin:inD D.length line=true:=by simpa using h8
  obtain⟨i,c,rfl,hc⟩:=in_get hin
  have hi:=(List.getElem?_eq_some_iff.1 hc).1
  have hmul:=Nat.mul_le_mul_right 193 (show i+1≤D.length from hi)
  have hc2:(D.set i (Ce.mk c.now c.now c.way c.sent))[i]? =some (Ce.mk c.now c.now c.way c.sent):=by rw[List.getElem?_set_self hi]
  refine pA_ 3 ?_
  refine Dr ([[(x.db,.cells (dxC x D k).toArray 104 (0,0))]])<|pR_ [0,1,2] ?_
  refine Rv 3 rfl (Ld (v:= .slice (some ⟨x.cb,0,none⟩) D.length x.cap))<|pR_ [4,5,6,7] ?_
  refine Rv 8 rfl (Ld (v:= .slice (some ⟨x.cb,0,none⟩) D.length x.cap))<|Rv 9 rfl Mv<|Rv 10 rfl (Val.indexAddrN rfl rfl Tryz.underlying100 Tryz.sizeOf132 hi)<|RW.re 19 (.pointer (some ⟨x.cb,i*193,none⟩)) rfl (by simp)<|Rv 11 rfl (Fa 0 125)<|Re 12 rfl (Eff.ofVal (La (byC c.now.1) (r:=(cx_now (x:=x) hc).choose) (hl:=by simpa using(cx_now (x:=x) hc).choose_spec) (hs:=by rw[byC64];exact Tryz.sizeOf125))) fun _ _=>Rv 13 rfl (Val.indexAddrN rfl rfl Tryz.underlying100 Tryz.sizeOf132 hi)<|Rv 14 rfl (Fa 64 125)<|ReN 15 rfl (Eff.storeA (cs:=byC c.now.1) (l:=cxC x D) (l':=cxC x (D.set i (Ce.mk c.now c.now c.way c.sent))) rfl rfl up_ (by have h8:=cx_in (x:=x) hc (c':=(Ce.mk c.now c.now c.way c.sent)) 64 (byC c.now.1) (ce_kept c c.now) (by simp[byC64]);first|(rw[List.set_set] at h8;simpa using h8;done)|simpa using h8) (by rw[cx_len];simp[byC64];omega) (by rw[byC64];exact Tryz.sizeOf125) (V.byC_one _)) fun _ _=>pA_ 7 ?_
  refine Lv (Ld (v:= .slice (some ⟨x.cb,0,none⟩) D.length x.cap))<|Lv Mv<|Lv (Val.indexAddrN rfl rfl Tryz.underlying100 Tryz.sizeOf132 hi)<|Lv (Fa 192 4)<|LeN (Eff.storeX (v:= .bool false) (l:=cxC x (D.set i (Ce.mk c.now c.now c.way c.sent))) (l':=cxC x (D.set i (Ce.mk c.now c.now c.way false))) rfl rfl rfl up_ (by have h8:=cx_in (x:=x) hc2 (c':=(Ce.mk c.now c.now c.way false)) 192 [.bool false] (ce_sent (Ce.mk c.now c.now c.way c.sent) false) (by simp);rw[List.set_set] at h8;simpa[V.splice] using h8) (by rw[cx_len];simp;omega) Tryz.sizeOf4) ?_
  intro _ _
  refine pA_ 8 ?_
  refine Lv (Ld (v:= .int .i64 k.d))<|Lv (Val.arw rfl rfl rfl)<|pA_ 3 ?_
  refine LeN (Eff.storeX (v:= .int .i64 (IntKind.i64.wrap (k.d+1))) (l:=dxC x D k) (l':=dxC x D {k with d:=IntKind.i64.wrap (k.d+1)}) rfl rfl rfl up_ rfl (by show _<6;omega) Tryz.sizeOf3) fun _ _=>pA_ 9 ?_
  rw[upD_set hc,hin]
  intro w' hw;exact⟨(),trivial,rfl,by unfold rdvS dxC;rw[List.length_set];exact hw.pick pk_⟩
theorem rfence_g (x:DvR)(D:List Ce)(k:Cnt)(hD:D.length≤100000):Mo Tryz.prog 44 [.pointer (some ⟨x.db,0,none⟩)] (rdvS x D k) (fun _u:Unit=>True) (fun _=> .tuple #[]) (fun _=>rdvS x (D.map fenB) {k with c:=IntKind.i64.wrap (k.c+1)}):=by
 intro w hs
 refine Ca_ Tryz.func44 rfl Tryz.ntmps44 hs<|pA_ 7 ?_
 refine V.CW.perm (sg':=[[(x.db,.cells (dxC x D k).toArray 104 (0,0))],[(x.cb,.cells (cxC x (fenL D 0)).toArray 132 (0,0))]]) ?_ (by unfold fenL;simp)
 refine loopA (γ:=Nat) (fun j=>[(0,.pointer (some ⟨x.db,0,none⟩)),(2,.int .i64 (j:Nat))]) (fun j=>[[(x.db,.cells (dxC x D k).toArray 104 (0,0))],[(x.cb,.cells (cxC x (fenL D j)).toArray 132 (0,0))]]) (fun j=>j≤D.length) (fun j=>D.length-j) (0) (Nat.zero_le _) fun j hj=>pA_ 7 ?_
 refine Lv (Ld (v:= .slice (some ⟨x.cb,0,none⟩) D.length x.cap))<|pA_ 4 ?_
 refine Cd_ rfl (fun h9=>?_) fun h9=>?_
 ·have hi:j<D.length:=by omega
  have hmul:=Nat.mul_le_mul_right 193 (show j+1≤D.length from hi)
  have hfl:=fenL_len D j
  obtain⟨c,hc⟩:∃c,D[j]? =some c:=⟨_,List.getElem?_eq_getElem hi⟩
  have hst:=fenL_step hc
  have hc2:((fenL D j).set j (Ce.mk c.now c.way c.way c.sent))[j]? =some (Ce.mk c.now c.way c.way c.sent):=by rw[List.getElem?_set_self om_]
  refine pA_ 9 ?_
  refine Lv (Ld (v:= .slice (some ⟨x.cb,0,none⟩) D.length x.cap))<|Lv Mv<|Lv (Val.indexAddrN rfl rfl Tryz.underlying100 Tryz.sizeOf132 hi)<|LW.re 17 (.pointer (some ⟨x.cb,j*193,none⟩)) rfl (by simp)<|Lv (Fa 192 4)<|Lv (Ld (v:= .bool c.sent) (hl:=cx_sent (x:=x) (fenL_at hc)))<|Nl<|Ps ?_
  refine Cd_ rfl (fun h19=>?_) fun h19=>?_
  ·have h19:c.sent=true:=h19
   have hfb:fenB c=(Ce.mk c.now c.way c.way false):=by unfold fenB;rw[if_pos h19]
   rw[hfb] at hst
   refine Sq<|Dr ([[(x.db,.cells (dxC x D k).toArray 104 (0,0))]])<|pR_ [0,1,2] ?_
   refine Rv 3 rfl (Ld (v:= .slice (some ⟨x.cb,0,none⟩) D.length x.cap))<|pR_ [4,5,6,7] ?_
   refine Rv 8 rfl (Ld (v:= .slice (some ⟨x.cb,0,none⟩) D.length x.cap))<|Rv 9 rfl Mv<|Rv 10 rfl (Val.indexAddrN rfl rfl Tryz.underlying100 Tryz.sizeOf132 hi)<|RW.re 30 (.pointer (some ⟨x.cb,j*193,none⟩)) rfl (by simp)<|Rv 11 rfl (Fa 128 125)<|Re 12 rfl (Eff.ofVal (La (byC c.way.1) (r:=(cx_way (x:=x) (fenL_at hc)).choose) (hl:=(cx_way (x:=x) (fenL_at hc)).choose_spec) (hs:=by rw[byC64];exact Tryz.sizeOf125))) fun _ _=>Rv 13 rfl (Val.indexAddrN rfl rfl Tryz.underlying100 Tryz.sizeOf132 hi)<|Rv 14 rfl (Fa 64 125)<|ReN 15 rfl (Eff.storeA (cs:=byC c.way.1) (l:=cxC x (fenL D j)) (l':=cxC x ((fenL D j).set j (Ce.mk c.now c.way c.way c.sent))) rfl rfl up_ (by have h8:=cx_in (x:=x) (fenL_at hc) (c':=(Ce.mk c.now c.way c.way c.sent)) 64 (byC c.way.1) (ce_kept c c.way) (by simp[byC64]);first|(rw[List.set_set] at h8;simpa using h8;done)|simpa using h8) (by rw[cx_len];simp[byC64];omega) (by rw[byC64];exact Tryz.sizeOf125) (V.byC_one _)) fun _ _=>pA_ 6 ?_
   refine Lv (Ld (v:= .slice (some ⟨x.cb,0,none⟩) D.length x.cap))<|Lv Mv<|Lv (Val.indexAddrN rfl rfl Tryz.underlying100 Tryz.sizeOf132 hi)<|Lv (Fa 192 4)<|LeN (Eff.storeX (v:= .bool false) (l:=cxC x ((fenL D j).set j (Ce.mk c.now c.way c.way c.sent))) (l':=cxC x ((fenL D j).set j (Ce.mk c.now c.way c.way false))) rfl rfl rfl up_ (by have h8:=cx_in (x:=x) hc2 (c':=(Ce.mk c.now c.way c.way false)) 192 [.bool false] (ce_sent (Ce.mk c.now c.way c.way c.sent) false) (by simp);rw[List.set_set] at h8;simpa[V.splice] using h8) (by rw[cx_len];simp;omega) Tryz.sizeOf4) ?_
   intro _ _
   refine pA_ 8 ?_
   rw[hst]
   exact roundA (j+1) om_ om_
  ·have h19:c.sent=false:=h19
   have hfb:fenB c=c:=by unfold fenB;rw[if_neg (by simp[h19])]
   have hss:(fenL D j).set j c=fenL D j:=by
    have h8:=fenL_at hc
    obtain⟨h9,h7⟩:=List.getElem?_eq_some_iff.1 h8
    rw[← h7,List.set_getElem_self]
   rw[hfb,hss] at hst
   refine pA_ 8 ?_
   rw[hst]
   exact roundA (j+1) om_ om_
 ·have hend:fenL D j=D.map fenB:=by unfold fenL;rw[List.take_of_length_le om_,List.drop_eq_nil_iff.2 om_,List.append_nil]
  rw[hend]
  refine pA_ 10 ?_
  refine Lv (Ld (v:= .int .i64 k.c))<|Lv (Val.arw rfl rfl rfl)<|pA_ 3 ?_
  refine LeN (Eff.storeX (v:= .int .i64 (IntKind.i64.wrap (k.c+1))) (l:=dxC x D k) (l':=dxC x D {k with c:=IntKind.i64.wrap (k.c+1)}) rfl rfl rfl up_ rfl (by show _<6;omega) Tryz.sizeOf3) fun _ _=>Nl<|PQ.end0 rfl ?_
  intro w' hw;exact⟨(),trivial,rfl,by unfold rdvS dxC;rw[List.length_map];exact hw.pick pk_⟩
end
section
attribute [local irreducible] V.CW V.LW V.QW V.RW V.PQ V.Val V.Eff V.Qcall
open V (str byC ownV ownG ownS ownOk)
instance:Cal Tryz.prog 58:=⟨Tryz.call58⟩
theorem putT_step {b:B64}{a j:Nat}{l:List UInt8}{u:UInt8}(h:a+l.length≤64)(hu:l[j]? =some u):putT (putT b a (l.take j)) (a+j) [u]=putT b a (l.take (j+1)):=by
 obtain⟨hj,hv⟩:=List.getElem?_eq_some_iff.1 hu
 have e1:(l.take j).length=j:=by rw[List.length_take];omega
 have e2:l.take (j+1)=l.take j++[u]:=by rw[List.take_add_one,hu];rfl
 have e3:(l.take (j+1)).length=j+1:=by rw[List.length_take];omega
 rw[putT_of (b:=b) (at_:=a) (l:=l.take j) (by rw[e1];omega),putT_of (l:=[u]) (by simp only[List.length_singleton];omega),putT_of (l:=l.take (j+1)) (by rw[e3];omega)]
 apply Subtype.ext
 have hb:=b.2
 have e4:(b.1.take a++l.take j).length=a+j:=by rw[List.length_append,e1,List.length_take];omega
 have e5:((b.1.take a++l.take j)++b.1.drop (a+j)).drop (a+j+1)=b.1.drop (a+(j+1)):=by
  rw[List.drop_append,List.drop_eq_nil_iff.2 (by rw[e4];omega),List.nil_append,List.drop_drop,e4]
  congr 1;omega
 show(b.1.take a++l.take j++b.1.drop (a+(l.take j).length)).take (a+j)++[u]++(b.1.take a++l.take j++b.1.drop (a+(l.take j).length)).drop (a+j+1)=b.1.take a++l.take (j+1)++b.1.drop (a+(l.take (j+1)).length)
 rw[e1,e3,List.take_left' e4,e5,e2,List.append_assoc (b.1.take a)]
def wrK (c:Ce)(a:Nat)(l:List UInt8)(j:Nat):Ce:=⟨putT c.now a (l.take j),c.kept,c.way,c.sent⟩
theorem wrK0 (c:Ce)(a:Nat)(l:List UInt8):wrK c a l 0=c:=by unfold wrK;rw[List.take_zero,putT_nil]
theorem ce_put1 {c:Ce}{a j:Nat}{l:List UInt8}{u:UInt8}(h:a+l.length≤64)(hu:l[j]? =some u):V.splice (ceC (wrK c a l j)) (a+j) [.int .u8 ((u.toNat:Nat):Int)]=ceC (wrK c a l (j+1)):=by
 obtain⟨hj,hv⟩:=List.getElem?_eq_some_iff.1 hu
 have h8:=ce_put (wrK c a l j) (a+j) [u] (by simp;omega)
 have h9:=putT_step (b:=c.now) h hu
 rw[putT_of (l:=[u]) (by simp;omega)] at h9
 refine Eq.trans h8 ?_
 show ceC ⟨putB (putT c.now a (l.take j)) (a+j) [u] _,c.kept,c.way,c.sent⟩=ceC ⟨putT c.now a (l.take (j+1)),c.kept,c.way,c.sent⟩
 rw[h9]
theorem rstore_gc (x:DvR)(D:List Ce)(k:Cnt)(line at_:Int)(bs:List UInt8)(p:Option Addr)(cp:Nat)(hl:bs.length≤100000)(w:World)(hs:Sat (rdvS x D k) w)(hp:V.slAt w p 1 byE bs)(hpd:0<bs.length→∀b o,p=some ⟨b,o,none⟩→b∉V.ids (rdvS x D k)):Calls Tryz.prog 29 [.pointer (some ⟨x.db,0,none⟩),.int .i64 line,.int .i64 at_,.slice p bs.length cp].toArray w fun e w'=>∃_u:Unit,True∧e= .returned (.int .i64 (er2 (thB D.length line at_ bs.length)))∧Hp ⟨w,V.ids ((rdvS x D k))⟩ (rdvS x (stD D line at_ bs) (if thB D.length line at_ bs.length=true then {k with a:=IntKind.i64.wrap (k.a+1)} else k)) w':=by
 refine Cs_ (rdvS x D k) Tryz.func29 rfl Tryz.ntmps29 hs<|pA_ 10 ?_
 refine Le (CV fun w hw=>rhas_g x D k line w hw.at) fun _ _=>Lv Nt<|Lv Mv ?_
 refine LW.split (d:=14) rfl (fun h14=>?_) (fun h14=>?_)
 ·replace h14:=bT h14
  have hin:inD D.length line=false:=by simpa using h14
  have ho:=in_out hin
  refine pA_ 25 ?_
  have hb:thB D.length line at_ bs.length=false:=by unfold thB;exact decide_eq_false om_
  have hD:stD D line at_ bs=D:=by unfold stD;rw[if_neg (by simp[hb])]
  rw[hD,hb]
  exact fi_ () trivial
 ·replace h14:=bF h14
  have hin:inD D.length line=true:=by simpa using h14
  refine pA_ 4 ?_
  refine LW.split (d:=18) rfl (fun h18=>?_) (fun h18=>?_)
  ·replace h18:=bT h18
   refine pA_ 21 ?_
   have hb:thB D.length line at_ bs.length=false:=by unfold thB;exact decide_eq_false om_
   have hD:stD D line at_ bs=D:=by unfold stD;rw[if_neg (by simp[hb])]
   rw[hD,hb]
   exact fi_ () trivial
  ·replace h18:=bF h18
   refine pA_ 4 ?_
   refine LW.split (d:=22) rfl (fun h22=>?_) (fun h22=>?_)
   ·replace h22:=bT h22
    refine pA_ 17 ?_
    have hb:thB D.length line at_ bs.length=false:=by unfold thB;exact decide_eq_false om_
    have hD:stD D line at_ bs=D:=by unfold stD;rw[if_neg (by simp[hb])]
    rw[hD,hb]
    exact fi_ () trivial
   ·replace h22:=bF h22
    refine pA_ 8 ?_
    refine Cd_ rfl (fun h28=>?_) fun h28=>?_
    ·refine pA_ 8 ?_
     have hb:thB D.length line at_ bs.length=false:=by unfold thB;exact decide_eq_false om_
     have hD:stD D line at_ bs=D:=by unfold stD;rw[if_neg (by simp[hb])]
     rw[hD,hb]
     exact fi_ () trivial
    ·obtain⟨i,c,rfl,hc⟩:=in_get hin
     have hi:=(List.getElem?_eq_some_iff.1 hc).1
     have hmul:=Nat.mul_le_mul_right 193 (show i+1≤D.length from hi)
     obtain⟨a,rfl⟩:∃a:Nat,at_=(a:Nat):=⟨at_.toNat,by omega⟩
     have h64:a+bs.length≤64:=by omega
     have hb:thB D.length ((i:Nat):Int) ((a:Nat):Int) bs.length=true:=by unfold thB;exact decide_eq_true om_
     have hD0:D.set i (wrK c a bs 0)=D:=by
      rw[wrK0]
      obtain⟨h9,h7⟩:=List.getElem?_eq_some_iff.1 hc
      rw[← h7,List.set_getElem_self]
     refine pA_ 9 ?_
     refine V.CW.perm (sg':=[[(x.db,.cells (dxC x D k).toArray 104 (0,0))],[(x.cb,.cells (cxC x (D.set i (wrK c a bs 0))).toArray 132 (0,0))]]) ?_ (by rw[hD0])
     refine loopA (γ:=Nat) (fun j=>[(0,.pointer (some ⟨x.db,0,none⟩)),(1,.int .i64 ((i:Nat):Int)),(2,.int .i64 ((a:Nat):Int)),(3,.slice p bs.length cp),(9,.int .i64 (j:Nat))]) (fun j=>[[(x.db,.cells (dxC x D k).toArray 104 (0,0))],[(x.cb,.cells (cxC x (D.set i (wrK c a bs j))).toArray 132 (0,0))]]) (fun j=>j≤bs.length) (fun j=>bs.length-j) (0) (Nat.zero_le _) fun j hj=>pA_ 9 ?_
     refine Cd_ rfl (fun h32=>?_) fun h32=>?_
     ·have hj9:j<bs.length:=by omega
      obtain⟨bb1,o1,u,rfl,hb1,hu,hr1⟩:=V.slAt_at hp rfl (k:=j) hj9
      have hnf:=hpd om_ bb1 _ rfl
      have hcj:(D.set i (wrK c a bs j))[i]? =some (wrK c a bs j):=List.getElem?_set_self hi
      refine pA_ 4 ?_
      refine Dr ([[(x.db,.cells (dxC x D k).toArray 104 (0,0))]])<|pR_ [0,1,2] ?_
      refine Rv 3 rfl (Ld (v:= .slice (some ⟨x.cb,0,none⟩) D.length x.cap))<|pR_ [4,5,6,7] ?_
      refine RW.re 42 (.int .i64 ((a+j:Nat):Int)) rfl (by simp)<|pR_ [8,9,10] ?_
      refine Rv 11 rfl (Val.loadO rfl Tryz.isAgg5 hb1 hnf (hr1 j u hu 0 _ rfl))<|Rv 12 rfl (Val.indexAddrN rfl rfl Tryz.underlying100 Tryz.sizeOf132 hi)<|RW.re 47 (.pointer (some ⟨x.cb,i*193,none⟩)) rfl (by simp)<|Rv 13 rfl (Fa 0 125)<|Rv 14 rfl Ixa<|RW.re 49 (.pointer (some ⟨x.cb,i*193+(a+j),none⟩)) rfl (by simp)<|ReN 15 rfl (Eff.storeX (v:= .int .u8 ((u.toNat:Nat):Int)) (l:=cxC x (D.set i (wrK c a bs j))) (l':=cxC x (D.set i (wrK c a bs (j+1)))) rfl rfl rfl up_ (by have h8:=cx_in (x:=x) hcj (a+j) [_] (ce_put1 h64 hu) (by simp;omega);rw[List.set_set] at h8;simpa[V.splice] using h8) (by rw[cx_len];simp;omega) Tryz.sizeOf5) fun _ _=>pA_ 8 ?_
      exact roundA (j+1) om_ om_
     ·obtain rfl:j=bs.length:=by omega
      refine pA_ 11 ?_
      refine Lv (Ld (v:= .int .i64 k.a))<|Lv (Val.arw rfl rfl rfl)<|pA_ 3 ?_
      refine LeN (Eff.storeX (v:= .int .i64 (IntKind.i64.wrap (k.a+1))) (l:=dxC x D k) (l':=dxC x D {k with a:=IntKind.i64.wrap (k.a+1)}) rfl rfl rfl up_ rfl (by show _<6;omega) Tryz.sizeOf3) fun _ _=>pA_ 9 ?_
      have hD:stD D ((i:Nat):Int) ((a:Nat):Int) bs=D.set i (wrK c a bs bs.length):=by
       unfold stD wrK;rw[if_pos hb,upD_set hc,Int.toNat_natCast,List.take_length]
      rw[hD,hb]
      intro w' hw;exact⟨(),trivial,rfl,by unfold rdvS dxC;rw[List.length_set];exact hw.pick pk_⟩
end
section
attribute [local irreducible] V.CW V.LW V.QW V.RW V.PQ V.Val V.Eff V.Qcall
open V (str byC ownV ownG ownS ownOk)
instance:Cal Tryz.prog 30:=⟨Tryz.call30⟩
instance:Cal Tryz.prog 69:=⟨Tryz.call69⟩
instance:Cal Tryz.prog 71:=⟨Tryz.call71⟩
instance:Cal Tryz.prog 72:=⟨Tryz.call72⟩
instance:Cal Tryz.prog 135:=⟨Tryz.call135⟩
instance:Cal Tryz.prog 152:=⟨Tryz.call152⟩
theorem own_some {sz m:Nat}{xs:List Value}{o:V.OwnO}(h:ownOk sz m xs o)(hm:0<m):∃g r c,o=some (g,r,c):=by
 rcases o with _|⟨g,r,c⟩
 ·exact absurd h.2 om_
 ·exact⟨g,r,c,rfl⟩
theorem slAt_sub {w:World}{b o:Nat}{l:List UInt8}(h:V.slAt w (some ⟨b,o,none⟩) 1 byE l)(L n:Nat):V.slAt w (some ⟨b,o+L,none⟩) 1 byE ((l.drop L).take n):=by
 rcases h with h|⟨b2,o2,he,hb,hr⟩
 ·left;rw[h];simp
 ·obtain⟨rfl,rfl⟩:b=b2∧o=o2:=by simpa using he
  refine .inr ⟨b,o+L,rfl,hb,fun j u hj=>?_⟩
  have h1:l[L+j]? =some u:=by
   rw[List.getElem?_take] at hj
   split at hj
   ·rw[List.getElem?_drop] at hj;exact hj
   ·cases hj
  have h2:=hr (L+j) u h1
  rw[show o+L+j*1=o+(L+j)*1 by omega]
  exact h2
theorem rwhole_c (b:List UInt8)(hb:b.length=9)(o:V.OwnO)(ho:ownOk 1 9 (byC b) o):Mo Tryz.prog 71 [ownV 9 o] [ownG 5 (byC (b)) (o)] (fun o':V.OwnO=>ownOk 1 64 (byC (wholeF b)) o') (fun o'=>ownV 64 o') (fun o'=>[ownG 5 (byC (wholeF b)) (o')]):=by
 intro w hs
 obtain⟨p,c,hv,hc,hsl⟩:=own_srcT (T:=5) (l:=b) (by rw[hb];exact ho)
 rw[hb] at hv
 have hr:=sumF_rng b
 refine Ca_ Tryz.func71 rfl Tryz.ntmps71 hs<|pA_ 9 ?_
 refine LW.re 4 (.slice p 9 c) rfl hv<|Le (CV fun w hw=>(by have h8:=rsum_c b p c om_ w (hsl hw pk_);rw[hb] at h8;exact h8)) fun _ _=>Lv Cv<|LW.re 6 (.int .u64 (sumF b)) rfl (by rw[IntWalk.u64_in _ om_])<|Le (Cn_ (rlay_c 4 (sumF b) om_ om_)) fun o2 ho2=>Le (Eff.appendOwn (sz:=1) (bytes:=1) (z:= .int .u8 0) (xs:=byC (b)) (ys:=byC (layF 4 (sumF b))) (m0:=9) (m:=4) (o:=o) (oy:=o2) (pk:=[ownG 5 (byC (b)) (o)]) (pk2:=[ownG 5 (byC (layF 4 (sumF b))) (o2)]) rfl rfl Tryz.underlying54 kr_ rfl om_ pk_ (by first|rfl|simp[V.ownG_some]) ho pk_ (by simp) ho2 (V.byC_one _) om_ om_) fun o3 ho3=>?_
 have e3:byC b++byC (layF 4 (sumF b))=byC (b++layF 4 (sumF b)++List.replicate 0 0):=by rw[← V.byC_append];simp
 rw[e3] at ho3⊢
 refine pA_ 5 ?_
 refine loopA (γ:=Nat×V.OwnO) (fun k=>[(0,ownV (13+k.1) k.2)]) (fun k=>[ownG 5 (byC (b++layF 4 (sumF b)++List.replicate k.1 0)) (k.2)]) (fun k=>k.1≤51∧ownOk 1 (13+k.1) (byC (b++layF 4 (sumF b)++List.replicate k.1 0)) k.2) (fun k=>51-k.1) ((0,o3)) ⟨Nat.zero_le _,ho3⟩ fun k=>?_
 rintro⟨hk1,hk2⟩
 refine pA_ 4 ?_
 refine Lv (Val.lenOwn rfl Tryz.underlying54 hk2)<|pA_ 3 ?_
 refine Cd_ rfl (fun h11=>?_) fun h11=>?_
 ·have hk9:k.1<51:=by omega
  refine Sk<|Ps<|Bk<|Rg<|Lv Mv<|Le (Eff.buildSlice (rfl) [_] Tryz.underlying54 Tryz.sizeOf5 (by exact Tryz.zeroValue5) rfl rfl rfl rfl (by rfl)) fun b13 _=>Le (Eff.appendAny (byC ([0])) (sz:=1) (bytes:=1) (z:= .int .u8 0) (xs:=byC (b++layF 4 (sumF b)++List.replicate k.1 0)) (m0:=13+k.1) (o:=k.2) (m:=1) (pk:=[ownG 5 (byC (b++layF 4 (sumF b)++List.replicate k.1 0)) (k.2)]) rfl rfl Tryz.underlying54 kr_ rfl om_ pk_ (by simp) hk2 (by rfl) (fun hm0=>⟨b13,0,rfl,fun w hw=>V.range_of_block (o:=0) (cs:=byC [0]) (r:=[]) (hw.own _ (show InS (b13,.cells (byC [0]).toArray 5 (0,0)) _ from in_).mem) rfl⟩) (V.byC_one _) om_ om_) fun o4 ho4=>?_
  have e4:byC (b++layF 4 (sumF b)++List.replicate k.1 0)++byC [0]=byC (b++layF 4 (sumF b)++List.replicate (k.1+1) 0):=by rw[← V.byC_append,List.replicate_succ',← List.append_assoc]
  rw[e4] at ho4⊢
  refine pA_ 3 ?_
  exact roundA ((k.1+1,o4)) ⟨by simp only;omega,ho4⟩ (by simp only;omega)
 ·have hk9:k.1=51:=by omega
  refine pA_ 13 ?_
  rw[hk9] at hk2⊢
  exact fi_ k.2 hk2
theorem rsuper_c (n:Int)(hn:10≤n∧n≤258):Mz Tryz.prog 69 [.int .i64 n] (fun o:V.OwnO=>ownOk 1 64 (byC (superL n)) o) (fun o=> .tuple #[ownV 64 o,.int .i64 0]) (fun o=>[ownG 5 (byC (superL n)) (o)]):=by
 intro w
 refine Cb_ Tryz.func69 rfl Tryz.ntmps69<|pA_ 12 ?_
 refine LW.re 6 (.bool false) rfl (by congr 1;simp;omega)<|Lv Mv<|Lv Cm<|LW.re 8 (.bool false) rfl (by congr 1;simp;omega)<|pA_ 8 ?_
 refine Le (Eff.buildSlice (rfl) [_,_,_,_,_] Tryz.underlying54 Tryz.sizeOf5 (by exact Tryz.zeroValue5) rfl rfl rfl rfl (by rfl)) fun b10 _=>Lv Mv<|Lv Cv<|LW.re 12 (.int .u64 n) rfl (by rw[IntWalk.u64_in _ om_])<|Le (Cn_ (rlay_c 4 n om_ om_)) fun o2 ho2=>Le (Eff.appendOwn (sz:=1) (bytes:=1) (z:= .int .u8 0) (xs:=byC ([4,70,85,83,69])) (ys:=byC (layF 4 n)) (m0:=5) (m:=4) (o:=some (b10,[],5)) (oy:=o2) (pk:=[[(b10,.cells (byC [4,70,85,83,69]).toArray 5 (0,0))]]) (pk2:=[ownG 5 (byC (layF 4 n)) (o2)]) rfl rfl Tryz.underlying54 kr_ rfl om_ pk_ (by first|rfl|simp[V.ownG_some]) ⟨rfl,rfl⟩ pk_ (by simp) ho2 (V.byC_one _) om_ om_) fun o3 ho3=>?_
 rw[← V.byC_append] at ho3⊢
 refine Le (Cm_ (rwhole_c ([4,70,85,83,69]++layF 4 n) (by simp[layF_len]) o3 ho3)) fun o4 ho4=>?_
 rw[← super_whole om_] at ho4⊢
 refine pA_ 6 ?_
 exact fi_ o4 ho4
theorem rclock_c (v:Int)(hv:0≤v∧v<18446744073709551616):Mz Tryz.prog 30 [.int .u64 v] (fun o:V.OwnO=>ownOk 1 64 (byC (clockL v)) o) (fun o=>ownV 64 o) (fun o=>[ownG 5 (byC (clockL v)) (o)]):=by
 intro w
 refine Cb_ Tryz.func30 rfl Tryz.ntmps30<|pA_ 7 ?_
 refine Le (Eff.buildSlice (rfl) [_] Tryz.underlying54 Tryz.sizeOf5 (by exact Tryz.zeroValue5) rfl rfl rfl rfl (by rfl)) fun b3 _=>Lv Mv<|Le (Cn_ (rlay_c 8 v om_ hv)) fun o2 ho2=>Le (Eff.appendOwn (sz:=1) (bytes:=1) (z:= .int .u8 0) (xs:=byC ([3])) (ys:=byC (layF 8 v)) (m0:=1) (m:=8) (o:=some (b3,[],1)) (oy:=o2) (pk:=[[(b3,.cells (byC [3]).toArray 5 (0,0))]]) (pk2:=[ownG 5 (byC (layF 8 v)) (o2)]) rfl rfl Tryz.underlying54 kr_ rfl om_ pk_ (by first|rfl|simp[V.ownG_some]) ⟨rfl,rfl⟩ pk_ (by simp) ho2 (V.byC_one _) om_ om_) fun o3 ho3=>?_
 rw[← V.byC_append] at ho3⊢
 refine Le (Cm_ (rwhole_c (3::layF 8 v) (by simp[layF_len]) o3 ho3)) fun o4 ho4=>?_
 rw[← clock_whole hv] at ho4⊢
 refine pA_ 5 ?_
 exact fi_ o4 ho4
theorem risSuper_c (b:B64)(p:Option Addr)(c:Nat)(w:World)(hp:V.slAt w p 1 byE b.1):Calls Tryz.prog 81 [.slice p 64 c].toArray w fun e w'=>e= .returned (.tuple #[.int .i64 (isSuperF b).1,.bool (isSuperF b).2])∧Below w.heap.size w w':=by
 refine Cb_ Tryz.func81 rfl Tryz.ntmps81<|pA_ 13 ?_
 refine loopA (γ:=Nat) (fun k=>[(0,.slice p 64 c),(4,.int .i64 (10+(k:Nat)))]) (fun _=>[]) (fun k=>k≤249∧∀n:Int,10≤n→n<10+(k:Nat)→superL n≠b.1) (fun k=>249-k) (0) ⟨Nat.zero_le _,fun n h1 h2=>by omega⟩ fun k=>?_
 rintro⟨hk1,hk2⟩
 refine pA_ 7 ?_
 refine Cd_ rfl (fun h8=>?_) fun h8=>?_
 ·have hk9:k≤248:=by omega
  refine pA_ 7 ?_
  refine Le (Cn_ (rsuper_c (10+k) om_)) fun o5 ho5=>pA_ 10 ?_
  refine LW.re 16 (ownV (superL (10+k)).length o5) rfl (by rw[superL_len])<|Lv (Val.convBytes (l:=superL (10+k)) (o:=o5) (pk:=[ownG 5 (byC (superL (10+k))) (o5)]) rfl Tryz.underlying54 Tryz.underlying5 Tryz.underlying9 (by rw[superL_len];exact ho5) pk_ (by simp))<|Lv Mv<|LW.re 18 (.slice p b.1.length c) rfl (by rw[b.2])<|Lv (Val.convSl (l:=b.1) rfl Tryz.underlying54 Tryz.underlying5 Tryz.underlying9 (fun w hw=>hw.slAt hp (by simp[ids])))<|pA_ 3 ?_
  refine Cd_ rfl (fun h20=>?_) fun h20=>?_
  ·have h20:superL (10+k)=b.1:=h20
   refine pA_ 14 ?_
   rw[super_yes (b:=b) (n:=10+k) om_ h20]
   exact fb_
  ·have h20:¬superL (10+k)=b.1:=h20
   have hk3:∀n:Int,10≤n→n<10+(k+1:Nat)→superL n≠b.1:=fun n h1 h2=>by
    by_cases h3:n=10+k
    ·rw[h3];exact h20
    ·exact hk2 n h1 om_
   refine pA_ 8 ?_
   refine PQ.round (k+1) ⟨by omega,hk3⟩ om_ (by refine⟨rfl,?_,trivial⟩;exact congrArg (fun z=>some (Value.int .i64 z)) om_) pk_
 ·have hk9:k=249:=by omega
  refine pA_ 13 ?_
  rw[super_no (b:=b) (fun n h1 h2=>hk2 n h1 om_)]
  exact fb_
theorem isClock_ref (b:B64):isClockF b=if clockL ((nmF ((b.1.drop 1).take 8):Nat):Int)=b.1 then(((nmF ((b.1.drop 1).take 8):Nat):Int),true) else(0,false):=by
 unfold isClockF
 rw[getN_num b.1 1 (n:=8) om_ (by rw[b.2];omega)]
 by_cases h:clockL ((nmF ((b.1.drop 1).take 8):Nat):Int)=b.1
 ·rw[if_pos h.symm,if_pos h]
 ·rw[if_neg (fun h2=>h h2.symm),if_neg h]
theorem risClock_c (b:B64)(p:Option Addr)(c:Nat)(hc:64≤c)(w:World)(hp:V.slAt w p 1 byE b.1):Calls Tryz.prog 82 [.slice p 64 c].toArray w fun e w'=>e= .returned (.tuple #[.int .u64 (isClockF b).1,.bool (isClockF b).2])∧Below w.heap.size w w':=by
 obtain⟨pb,po,_,rfl,hpb,_,hpr⟩:=V.slAt_at hp rfl (k:=0) (by rw[b.2];omega)
 have hn8:((b.1.drop 1).take 8).length=8:=by rw[List.length_take,List.length_drop,b.2];rfl
 have hnm:nmF ((b.1.drop 1).take 8)<18446744073709551616:=by
  have h1:=nmF_lt ((b.1.drop 1).take 8)
  rw[hn8] at h1
  exact h1
 refine Cb_ Tryz.func82 rfl Tryz.ntmps82<|pA_ 12 ?_
 refine LW.re 7 (.bool false) rfl (by rfl)<|pA_ 8 ?_
 refine Lv (Val.slice (1) (9) (c) rfl Tryz.underlying54 Tryz.sizeOf5 ⟨_,rfl⟩ ⟨_,rfl⟩ rfl (fun _=>rfl) om_ om_ om_)<|LW.re 9 (.slice (some ⟨pb,po+1,none⟩) ((b.1.drop 1).take 8).length (c-1)) rfl (by rw[hn8,if_neg om_])<|Le (CV fun w hw=>rnum_c ((b.1.drop 1).take 8) _ (c-1) om_ w (slAt_sub (hw.slAt hp (by simp[ids])) 1 8)) fun _ _=>pA_ 5 ?_
 refine Dr ([])<|pR_ [0,3] ?_
 refine RW.re 14 (.slice (some ⟨pb,po,none⟩) b.1.length c) rfl (by rw[b.2])<|Rv 4 rfl (Val.convSl (l:=b.1) rfl Tryz.underlying54 Tryz.underlying5 Tryz.underlying9 (fun w hw=>hw.slAt hp (by simp[ids])))<|Re 1 rfl (Cn_ (rclock_c ((nmF ((b.1.drop 1).take 8):Nat):Int) om_)) fun o5 ho5=>Re 2 rfl (Eff.ofVal (Val.convBytes (l:=clockL ((nmF ((b.1.drop 1).take 8):Nat):Int)) (o:=o5) (pk:=[ownG 5 (byC (clockL ((nmF ((b.1.drop 1).take 8):Nat):Int))) (o5)]) (by exact(congrArg some (by first|rfl|simp[superL_len,clockL_len]))) Tryz.underlying54 Tryz.underlying5 Tryz.underlying9 (by rw[clockL_len];exact ho5) pk_ (by simp))) fun _ _=>Rv 5 rfl NS<|Rd<|Ps ?_
 refine Cd_ rfl (fun h16=>?_) fun h16=>?_
 ·have h16:¬clockL ((nmF ((b.1.drop 1).take 8):Nat):Int)=b.1:=by simpa using h16
  refine pA_ 9 ?_
  rw[isClock_ref,if_neg h16]
  exact fb_
 ·have h16:clockL ((nmF ((b.1.drop 1).take 8):Nat):Int)=b.1:=by simpa using h16
  refine pA_ 11 ?_
  rw[isClock_ref,if_pos h16]
  exact fb_
theorem rslabs_c (n:Int):Rz Tryz.prog 37 [.int .i64 n] (.int .i64 (slabsF n)):=by
 intro w
 refine Cb_ Tryz.func37 rfl Tryz.ntmps37<|pA_ 12 ?_
 refine loopA (γ:=Nat) (fun k=>[(0,.int .i64 n),(3,.int .i64 (k:Nat))]) (fun _=>[]) (fun k=>k≤32∧(k=0∨2+8*(k:Int)≤n)) (fun k=>32-k) (0) ⟨Nat.zero_le _,.inl rfl⟩ fun k=>?_
 rintro⟨hk1,hk2⟩
 refine pA_ 6 ?_
 refine LW.split (d:=6) rfl (fun h6=>?_) (fun h6=>?_)
 ·replace h6:=bT h6
  refine pA_ 9 ?_
  refine Cd_ rfl (fun h13=>?_) fun h13=>?_
  ·refine pA_ 9 ?_
   exact roundA (k+1) ⟨by omega,.inr om_⟩ om_
  ·refine pA_ 13 ?_
   have e8:slabsF n=(k:Nat):=by unfold slabsF;split<;>omega
   rw[e8]
   exact fb_
 ·replace h6:=bF h6
  refine pA_ 23 ?_
  have e8:slabsF n=(k:Nat):=by unfold slabsF;split<;>omega
  rw[e8]
  exact fb_
theorem rslab_c (k:Int):Rz Tryz.prog 204 [.int .i64 k] (.int .i64 (slabF k)):=by
 intro w
 refine Cb_ Tryz.func204 rfl Tryz.ntmps204<|pA_ 11 ?_
 refine LW.split (d:=5) rfl (fun h5=>?_) (fun h5=>?_)
 ·replace h5:=bT h5
  refine pA_ 14 ?_
  intro w' hw;exact⟨by congr 2;unfold slabF;split<;>first|rfl|omega,hw.below⟩
 ·replace h5:=bF h5
  refine pA_ 5 ?_
  refine Cd_ rfl (fun h8=>?_) fun h8=>?_
  ·refine pA_ 8 ?_
   intro w' hw;exact⟨by congr 2;unfold slabF;split<;>first|rfl|omega,hw.below⟩
  ·refine pA_ 12 ?_
   intro w' hw;exact⟨by congr 2;unfold slabF;split<;>first|rfl|omega,hw.below⟩
theorem rslabOf_c (line:Int):Rz Tryz.prog 154 [.int .i64 line] (.int .i64 (slabOfF line)):=by
 intro w
 refine Cb_ Tryz.func154 rfl Tryz.ntmps154<|pA_ 11 ?_
 refine LW.split (d:=5) rfl (fun h5=>?_) (fun h5=>?_)
 ·replace h5:=bT h5
  refine pA_ 14 ?_
  intro w' hw;exact⟨by congr 2;unfold slabOfF;split<;>first|rfl|omega,hw.below⟩
 ·replace h5:=bF h5
  refine pA_ 5 ?_
  refine Cd_ rfl (fun h8=>?_) fun h8=>?_
  ·refine pA_ 8 ?_
   intro w' hw;exact⟨by congr 2;unfold slabOfF;split<;>first|rfl|omega,hw.below⟩
  ·refine pA_ 6 ?_
   refine Lv (Val.quo rfl rfl om_)<|LW.re 11 (.int .i64 ((line-2).tdiv 8)) rfl (by rw[Int.tdiv_eq_ediv_of_nonneg om_,IntWalk.i64_in _ om_])<|pA_ 5 ?_
   intro w' hw;exact⟨by congr 2;unfold slabOfF;split<;>first|rfl|omega,hw.below⟩
end
end G
end Go.Proofs.YteejleakfbnpcaaGreat
