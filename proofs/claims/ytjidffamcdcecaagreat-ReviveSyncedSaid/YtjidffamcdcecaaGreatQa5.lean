import Derived.Test.YtjidffamcdcecaaGreatQa4
/- What the law leans on, part 5. -/
namespace Go.Proofs.YtjidffamcdcecaaGreat
open Go Go.RowKit V
set_option linter.unusedVariables false
set_option maxRecDepth 100000
set_option maxHeartbeats 1000000
namespace G
section
attribute [local irreducible] V.CW V.LW V.QW V.RW V.PQ V.Val V.Eff V.Qcall
open V (str byC ownV ownG ownS ownOk)
theorem splice_mid0:∀(cs p l r:List Value),l.length=cs.length→V.splice (p++(l++r)) p.length cs=p++(cs++r)
 |[],p,l,r,h=>by
  have:l=[]:=List.length_eq_zero_iff.1 h
  subst this;simp[V.splice]
 |c::cs,p,l,r,h=>by
  cases l with
  |nil=>simp at h
  |cons x l=>
   simp only[V.splice,List.cons_append,List.set_append_right _ _ (Nat.le_refl _),Nat.sub_self,List.set_cons_zero]
   have:=splice_mid0 cs (p++[c]) l r (by simpa using h)
   simpa using this
structure Ck where
 now:Int
 dur:Int
 clo:Int
 owed:List Int
 noted:List Bool
 left:List Bool
 ph:Nat
def stV (cb:Nat):Nat→Value
 |0=> .nilFunc
 |1=> .func (.func 32) #[.pointer (some ⟨cb,0,none⟩)] #[]
 |2=> .func (.func 66) #[.pointer (some ⟨cb,0,none⟩)] #[]
 |3=> .func (.func 89) #[.pointer (some ⟨cb,0,none⟩)] #[]
 |_=> .func (.func 125) #[.pointer (some ⟨cb,0,none⟩)] #[]
theorem oneB (b:Bool):(Value.bool b).oneCell'=true:=rfl
theorem oneI (k:IntKind)(i:Int):(Value.int k i).oneCell'=true:=rfl
def ckk (cb:Nat)(c:Ck):Ckk:=⟨c.now,c.dur,c.clo,c.owed,c.noted,c.left,stV cb c.ph⟩
abbrev kS (cb wb:Nat)(c:Ck):Sg:=ckS cb wb (ckk cb c)
def kC (cb wb:Nat)(c:Ck):List Value:=ckC wb (ckk cb c)
def Ck.Ok (th:Nat)(c:Ck):Prop:=c.owed.length=th∧c.noted.length=258∧c.left.length=258
theorem owI_at {l:List Int}{t:Nat}(h:t<l.length):(l.flatMap inI)[t]? =some (.int .i64 (l.getD t 0)):=by
 rw[inI_map,List.getElem?_map,List.getElem?_eq_getElem h,List.getD_eq_getElem?_getD,List.getElem?_eq_getElem h]
 rfl
theorem owI_set (l:List Int)(t:Nat)(v:Int):(l.flatMap inI).set t (.int .i64 v)=(l.set t v).flatMap inI:=by rw[inI_map,inI_map,List.map_set]
theorem clr_ints (l:List Int):V.splice (l.map (Value.int .i64)) 0 (V.repL [.int .i64 0] l.length)=(List.replicate l.length 0).flatMap inI:=by
 have h1:=splice_mid0 (V.repL [.int .i64 0] l.length) [] (l.map (Value.int .i64)) [] (by rw[V.repL_one];simp)
 simp only[List.nil_append,List.append_nil,List.length_nil] at h1
 rw[h1,V.repL_one,inI_map,List.map_replicate]
theorem kC_len {cb wb th:Nat}{c:Ck}(h:c.Ok th):(kC cb wb c).length=521:=by
 unfold kC ckC ckk
 simp only[List.length_cons,List.length_append,List.length_map,h.2.1,h.2.2,List.length_nil]
theorem kC_noted {cb wb th:Nat}{c:Ck}(h:c.Ok th)(l:List Bool)(hl:l.length=258):V.splice (kC cb wb c) 4 (l.map Value.bool)=kC cb wb {c with noted:=l}:=by
 have h1:=splice_mid0 (l.map Value.bool) [.int .u64 c.now,.int .u64 c.dur,.int .u64 c.clo,.slice (some ⟨wb,0,none⟩) c.owed.length c.owed.length] (c.noted.map Value.bool) (c.left.map Value.bool++[stV cb c.ph]) (by rw[List.length_map,List.length_map,h.2.1,hl])
 exact h1
theorem kC_left {cb wb th:Nat}{c:Ck}(h:c.Ok th)(l:List Bool)(hl:l.length=258):V.splice (kC cb wb c) 262 (l.map Value.bool)=kC cb wb {c with left:=l}:=by
 have h1:=splice_mid0 (l.map Value.bool) ([.int .u64 c.now,.int .u64 c.dur,.int .u64 c.clo,.slice (some ⟨wb,0,none⟩) c.owed.length c.owed.length]++c.noted.map Value.bool) (c.left.map Value.bool) [stV cb c.ph] (by rw[List.length_map,List.length_map,h.2.2,hl])
 have h2:([Value.int .u64 c.now,.int .u64 c.dur,.int .u64 c.clo,.slice (some ⟨wb,0,none⟩) c.owed.length c.owed.length]++c.noted.map Value.bool).length=262:=by simp only[List.length_append,List.length_map,h.2.1,List.length_cons,List.length_nil]
 rw[h2] at h1
 simpa[kC,ckC,ckk,List.append_assoc] using h1
theorem kC_step {cb wb th:Nat}{c:Ck}(h:c.Ok th)(k:Nat):(kC cb wb c).set 520 (stV cb k)=kC cb wb {c with ph:=k}:=by
 have e1:∀c:Ck,kC cb wb c=([.int .u64 c.now,.int .u64 c.dur,.int .u64 c.clo,.slice (some ⟨wb,0,none⟩) c.owed.length c.owed.length]++(c.noted.map Value.bool++c.left.map Value.bool))++[stV cb c.ph]:=fun c=>by simp[kC,ckC,ckk,List.append_assoc]
 rw[e1,e1]
 have h2:([Value.int .u64 c.now,.int .u64 c.dur,.int .u64 c.clo,.slice (some ⟨wb,0,none⟩) c.owed.length c.owed.length]++(c.noted.map Value.bool++c.left.map Value.bool)).length=520:=by simp only[List.length_append,List.length_map,h.2.1,h.2.2,List.length_cons,List.length_nil]
 rw[← h2,List.set_append_right _ _ (Nat.le_refl _),Nat.sub_self]
 rfl
theorem kC_note {cb wb th:Nat}{c:Ck}(h:c.Ok th)(k:Nat)(hk:k<258)(b:Bool):(kC cb wb c).set (4+k) (.bool b)=kC cb wb {c with noted:=c.noted.set k b}:=by
 have e:kC cb wb c=[.int .u64 c.now,.int .u64 c.dur,.int .u64 c.clo,.slice (some ⟨wb,0,none⟩) c.owed.length c.owed.length]++(c.noted.map Value.bool++(c.left.map Value.bool++[stV cb c.ph])):=rfl
 rw[e,List.set_append_right _ _ (by simp),show 4+k- [Value.int .u64 c.now,.int .u64 c.dur,.int .u64 c.clo,.slice (some ⟨wb,0,none⟩) c.owed.length c.owed.length].length=k by simp,List.set_append_left _ _ (by rw[List.length_map,h.2.1];exact hk),← List.map_set]
 rfl
theorem kC_unleft {cb wb th:Nat}{c:Ck}(h:c.Ok th)(k:Nat)(hk:k<258)(b:Bool):(kC cb wb c).set (262+k) (.bool b)=kC cb wb {c with left:=c.left.set k b}:=by
 have e1:∀c:Ck,kC cb wb c=([.int .u64 c.now,.int .u64 c.dur,.int .u64 c.clo,.slice (some ⟨wb,0,none⟩) c.owed.length c.owed.length]++c.noted.map Value.bool)++(c.left.map Value.bool++[stV cb c.ph]):=fun c=>by simp[kC,ckC,ckk]
 have h2:([Value.int .u64 c.now,.int .u64 c.dur,.int .u64 c.clo,.slice (some ⟨wb,0,none⟩) c.owed.length c.owed.length]++c.noted.map Value.bool).length=262:=by simp only[List.length_append,List.length_map,h.2.1,List.length_cons,List.length_nil]
 rw[e1,e1,List.set_append_right _ _ (by rw[h2];omega),h2,show 262+k-262=k by omega,List.set_append_left _ _ (by rw[List.length_map,h.2.2];exact hk),← List.map_set]
theorem kC_drop_left {cb wb th:Nat}{c:Ck}(h:c.Ok th):(kC cb wb c).drop 262=c.left.map Value.bool++[stV cb c.ph]:=by
 have e:kC cb wb c=([.int .u64 c.now,.int .u64 c.dur,.int .u64 c.clo,.slice (some ⟨wb,0,none⟩) c.owed.length c.owed.length]++c.noted.map Value.bool)++(c.left.map Value.bool++[stV cb c.ph]):=by simp[kC,ckC,ckk]
 have h2:([Value.int .u64 c.now,.int .u64 c.dur,.int .u64 c.clo,.slice (some ⟨wb,0,none⟩) c.owed.length c.owed.length]++c.noted.map Value.bool).length=262:=by simp only[List.length_append,List.length_map,h.2.1,List.length_cons,List.length_nil]
 rw[e,← h2,List.drop_left]
theorem kC_stp {cb wb th:Nat}{c:Ck}(h:c.Ok th):(kC cb wb c)[520]? =some (stV cb c.ph):=by
 have h1:=congrArg (fun l:List Value=>l[258]?) (kC_drop_left (cb:=cb) (wb:=wb) h)
 simp only[List.getElem?_drop] at h1
 rw[h1,List.getElem?_append_right (by rw[List.length_map,h.2.2];omega),List.length_map,h.2.2]
 rfl
def kNoteE (c:Ck)(t line:Int):Int:=if inR c.owed t then(if 0≤line∧line<258 then 0 else 2) else 1
def kNote (c:Ck)(t line:Int):Ck:=if kNoteE c t line=0 then {c with owed:=c.owed.set t.toNat (IntKind.i64.wrap (c.owed.getD t.toNat 0+1)),noted:=c.noted.set line.toNat true} else c
def kBeginE (c:Ck):Int:=if c.clo=0 then 0 else 7
def kBegin (c:Ck):Ck:=if c.clo=0 then {c with now:=IntKind.u64.wrap (c.now+1),clo:=c.now,owed:=List.replicate c.owed.length 0,noted:=List.replicate 258 false,left:=c.noted,ph:=1} else c
def firstT:List Bool→Option Nat
 |[]=>none
 |true::_=>some 0
 |false::r=>(firstT r).map (· +1)
theorem firstT_at {l:List Bool}:∀{k:Nat},(∀j,j<k→l[j]? =some false)→l[k]? =some true→firstT l=some k:=by
 induction l with
 |nil=>intro k _ h;simp at h
 |cons b r ih=>
  intro k h0 h
  rcases k with _|k
  ·simp at h;subst h;rfl
  ·have h1:=h0 0 om_
   simp at h1;subst h1
   show(firstT r).map (· +1)=_
   rw[ih (k:=k) (fun j hj=>by have:=h0 (j+1) om_;simpa using this) (by simpa using h)];rfl
theorem firstT_no {l:List Bool}(h:∀j,j<l.length→l[j]? =some false):firstT l=none:=by
 induction l with
 |nil=>rfl
 |cons b r ih=>
  have h1:=h 0 (by simp)
  simp at h1;subst h1
  show(firstT r).map (· +1)=_
  rw[ih fun j hj=>by have:=h (j+1) (by simpa using hj);simpa using this];rfl
def kStepE (c:Ck):Int:=if c.clo=0 then 12 else 0
def kStep (c:Ck)(v:Dev):Ck×Dev×Int:=if c.clo=0 then(c,v,0) else
 match c.ph with
 |0=>(c,v,0)
 |1=>match firstT c.left with
  |some k=>({c with left:=c.left.set k false},v.flush (k:Nat),1)
  |none=>({c with ph:=2},v.fence,2)
 |2=>({c with ph:=3},v.store 1 0 (clockL c.clo),3)
 |3=>({c with ph:=4},v.flush 1,1)
 |_=>({c with dur:=c.clo,clo:=0,ph:=0},v.fence,2)
def Ck.Ph (c:Ck):Prop:=(c.clo=0↔c.ph=0)∧c.ph≤4
theorem kNote_ok {th:Nat}{c:Ck}(h:c.Ok th)(t line:Int):(kNote c t line).Ok th:=by unfold kNote;split;exact⟨by simp[h.1],by simp[h.2.1],h.2.2⟩;exact h
theorem kBegin_ok {th:Nat}{c:Ck}(h:c.Ok th):(kBegin c).Ok th:=by unfold kBegin;split;exact⟨by simp[h.1],by simp,h.2.1⟩;exact h
theorem kStep_ok {th:Nat}{c:Ck}(h:c.Ok th)(v:Dev):(kStep c v).1.Ok th:=by
 unfold kStep
 split
 ·exact h
 ·split
  ·exact h
  ·split
   ·exact⟨h.1,h.2.1,by simp[h.2.2]⟩
   ·exact h
  ·exact h
  ·exact h
  ·exact h
theorem know_g (cb wb:Nat)(c:Ck):Rx Tryz.prog 17 [.pointer (some ⟨cb,0,none⟩)] (kS cb wb c) (.int .u64 c.now):=by
 intro w hs
 refine Ca_ Tryz.func17 rfl Tryz.ntmps17 hs<|pA_ 20 ?_
 refine Le (CV fun w hw=>uLd_c cb 0 (kC cb wb c) 89 c.now w rfl (hw.sat.pick (ss:=[[(cb,.cells (kC cb wb c).toArray 89 (0,0))]]) pk_)) fun _ _=>pA_ 5 ?_
 exact fr_ hs
theorem knote_g (cb wb:Nat)(c:Ck)(th:Nat)(hk:c.Ok th)(t line:Int):Mo Tryz.prog 255 [.pointer (some ⟨cb,0,none⟩),.int .i64 t,.int .i64 line] (kS cb wb c) (fun _u:Unit=>True) (fun _=> .int .i64 (kNoteE c t line)) (fun _=>kS cb wb (kNote c t line)):=by
 intro w hs
 have hck:(ckk cb c).owed.length=c.owed.length:=rfl
 refine Ca_ Tryz.func255 rfl Tryz.ntmps255 hs<|pA_ 15 ?_
 refine LW.split (d:=13) rfl (fun h13=>?_) (fun h13=>?_)
 ·replace h13:=bT h13
  refine pA_ 19 ?_
  have e0:kNoteE c t line=1:=if_neg (by unfold inR;omega)
  have e1:kNote c t line=c:=if_neg (by rw[e0];decide)
  rw[e0,e1]
  exact fi_ () trivial
 ·replace h13:=bF h13
  refine pA_ 4 ?_
  refine Lv Ld<|pA_ 5 ?_
  refine Cd_ rfl (fun h21=>?_) fun h21=>?_
  ·refine pA_ 8 ?_
   have e0:kNoteE c t line=1:=if_neg (by unfold inR;omega)
   have e1:kNote c t line=c:=if_neg (by rw[e0];decide)
   rw[e0,e1]
   exact fi_ () trivial
  ·refine pA_ 8 ?_
   refine LW.split (d:=24) rfl (fun h24=>?_) (fun h24=>?_)
   ·replace h24:=bT h24
    refine pA_ 14 ?_
    have e0:kNoteE c t line=2:=(if_pos (by unfold inR;omega)).trans (if_neg om_)
    have e1:kNote c t line=c:=if_neg (by rw[e0];decide)
    rw[e0,e1]
    exact fi_ () trivial
   ·replace h24:=bF h24
    refine pA_ 5 ?_
    refine Cd_ rfl (fun h27=>?_) fun h27=>?_
    ·refine pA_ 8 ?_
     have e0:kNoteE c t line=2:=(if_pos (by unfold inR;omega)).trans (if_neg om_)
     have e1:kNote c t line=c:=if_neg (by rw[e0];decide)
     rw[e0,e1]
     exact fi_ () trivial
    ·have ht:inR c.owed t:=by unfold inR;omega
     have htl:t.toNat<c.owed.length:=by unfold inR at ht;omega
     obtain⟨tn,rfl⟩:=Int.eq_ofNat_of_zero_le ht.1
     obtain⟨ln,rfl⟩:=Int.eq_ofNat_of_zero_le (show 0≤line by omega)
     simp only[Int.toNat_natCast] at htl⊢
     refine pA_ 7 ?_
     refine Lv Ld<|Lv Mv<|Lv (Val.indexAddrN (i:=tn) rfl rfl Tryz.underlying23 Tryz.sizeOf3 om_)<|Lv (Ld (v:= .int .i64 (c.owed.getD tn 0)) (hl:=by rw[Nat.zero_add,Nat.mul_one];exact owI_at htl))<|Lv (Val.arw rfl rfl rfl)<|Lv (Val.indexAddrN (i:=tn) rfl rfl Tryz.underlying23 Tryz.sizeOf3 om_)<|LeN (Eff.storeX (v:= .int .i64 (IntKind.i64.wrap (c.owed.getD tn 0+1))) (l:=c.owed.flatMap inI) (l':=(c.owed.set tn (IntKind.i64.wrap (c.owed.getD tn 0+1))).flatMap inI) rfl rfl rfl up_ (by rw[Nat.zero_add,Nat.mul_one];exact owI_set _ _ _) (by rw[Nat.zero_add,Nat.mul_one,inI_map,List.length_map];exact htl) Tryz.sizeOf3) fun _ _=>pA_ 8 ?_
     refine Lv (Val.indexAddrA (i:=ln) rfl rfl Tryz.underlying86 Tryz.sizeOf4 om_)<|LeN (Eff.storeX (v:= .bool true) (l:=kC cb wb c) (l':=kC cb wb {c with noted:=c.noted.set ln true}) rfl rfl rfl up_ (by have h8:=kC_note (cb:=cb) (wb:=wb) hk ln om_ true;simpa using h8) (by rw[kC_len hk];omega) Tryz.sizeOf4) fun _ _=>pA_ 9 ?_
     have e0:kNoteE c (tn:Nat) (ln:Nat)=0:=(if_pos ht).trans (if_pos om_)
     have e1:kNote c (tn:Nat) (ln:Nat)={c with owed:=c.owed.set tn (IntKind.i64.wrap (c.owed.getD tn 0+1)),noted:=c.noted.set ln true}:=if_pos e0
     rw[e0,e1]
     have e2:kC cb wb {c with noted:=c.noted.set ln true}=kC cb wb {c with owed:=c.owed.set tn (IntKind.i64.wrap (c.owed.getD tn 0+1)),noted:=c.noted.set ln true}:=by unfold kC ckC ckk;simp only[List.length_set]
     rw[e2]
     intro w' hw;exact⟨(),trivial,rfl,hw.pick (ss:=[[(cb,.cells (kC cb wb {c with owed:=c.owed.set tn (IntKind.i64.wrap (c.owed.getD tn 0+1)),noted:=c.noted.set ln true}).toArray 89 (0,0))],[(wb,.cells ((c.owed.set tn (IntKind.i64.wrap (c.owed.getD tn 0+1))).flatMap inI).toArray 3 (0,0))]]) pk_⟩
theorem kbegin_g (cb wb:Nat)(c:Ck)(th:Nat)(h1:1≤th∧th≤1000)(hk:c.Ok th):Mo Tryz.prog 8 [.pointer (some ⟨cb,0,none⟩)] (kS cb wb c) (fun _u:Unit=>True) (fun _=> .int .i64 (kBeginE c)) (fun _=>kS cb wb (kBegin c)):=by
 intro w hs
 by_cases h0:c.clo=0
 ·have e0:kBeginE c=0:=if_pos h0
  have e1:kBegin c={c with now:=IntKind.u64.wrap (c.now+1),clo:=c.now,owed:=List.replicate c.owed.length 0,noted:=List.replicate 258 false,left:=c.noted,ph:=1}:=if_pos h0
  rw[e0,e1]
  have hck:(ckk cb c).owed.length=c.owed.length:=rfl
  obtain⟨m,hm⟩:∃m,c.owed.length=m+1:=⟨c.owed.length-1,by have:=hk.1;omega⟩
  refine Ca_ Tryz.func8 rfl Tryz.ntmps8 hs<|pA_ 20 ?_
  refine Le (CV fun w hw=>uLd_c cb 0 (kC cb wb c) 89 c.now w rfl (hw.sat.pick (ss:=[[(cb,.cells (kC cb wb c).toArray 89 (0,0))]]) pk_)) fun _ _=>pA_ 10 ?_
  refine Le (CM ([[(cb,.cells (kC cb wb c).toArray 89 (0,0))]]) fun w hw hs0=>h0▸uHit_c cb 2 (kC cb wb c) 89 c.clo rfl c.now w hs0) fun _ _=>?_
  have ec1:(kC cb wb c).set 2 (.int .u64 c.now)=kC cb wb ({c with clo:=c.now}):=rfl
  rw[ec1]
  refine pA_ 13 ?_
  refine Lv (La (c.noted.map Value.bool) (r:=c.left.map Value.bool++[stV cb c.ph]) (hl:=rfl) (hs:=by rw[List.length_map,hk.2.1];exact Tryz.sizeOf86))<|Lv (Val.buildArr (List.replicate 258 (.bool false)) Tryz.zeroValue86 Tryz.underlying86 Tryz.sizeOf4 rfl rfl)<|Lv Nz<|Lv (Fa 262 86)<|LeN (Eff.storeA (cs:=c.noted.map Value.bool) (l:=kC cb wb ({c with clo:=c.now})) (l':=kC cb wb ({c with clo:=c.now,left:=c.noted})) rfl rfl up_ (by exact kC_left (c:={c with clo:=c.now}) hk c.noted hk.2.1) (by rw[kC_len (th:=th) (by exact hk)];simp[hk.2.1]) (by simp only[List.length_map,hk.2.1];exact Tryz.sizeOf86) (by simp[oneB])) fun _ _=>Lv Nz<|Lv (Fa 4 86)<|LeN (Eff.storeA (cs:=List.replicate 258 (.bool false)) (l:=kC cb wb ({c with clo:=c.now,left:=c.noted})) (l':=kC cb wb ({c with clo:=c.now,left:=c.noted,noted:=List.replicate 258 false})) rfl rfl up_ (by exact by have h8:=kC_noted (cb:=cb) (wb:=wb) (c:={c with clo:=c.now,left:=c.noted}) (th:=th) ⟨hk.1,hk.2.1,hk.2.1⟩ (List.replicate 258 false) (by simp);rw[List.map_replicate] at h8;exact h8) (by rw[kC_len (th:=th) (by exact⟨hk.1,hk.2.1,hk.2.1⟩)];simp) (by simp only[List.length_replicate];exact Tryz.sizeOf86) (by simp[oneB])) fun _ _=>pA_ 7 ?_
  refine Lv Ld<|LeN (Eff.clear (m:=m) (zl:=[.int .i64 0]) (cells':=(List.replicate c.owed.length 0).flatMap inI) (by rw[← hm];rfl) Tryz.underlying23 (by exact Tryz.zeroValue3) rfl up_ (by rw[← hm,inI_map];exact clr_ints c.owed) (by rw[V.repL_one,List.length_replicate,inI_map,List.length_map];omega) (by rw[V.repL_one];simp[oneI])) ?_
  intro _ _
  refine pA_ 8 ?_
  refine Lv (Val.arw rfl rfl rfl)<|Le (CM ([[(cb,.cells (kC cb wb ({c with clo:=c.now,left:=c.noted,noted:=List.replicate 258 false})).toArray 89 (0,0))]]) fun w hw hs0=>aStore_c cb 0 (kC cb wb ({c with clo:=c.now,left:=c.noted,noted:=List.replicate 258 false})) 89 _ (IntKind.u64.wrap (c.now+1)) w rfl hs0) fun _ _=>?_
  have ec4:(kC cb wb ({c with clo:=c.now,left:=c.noted,noted:=List.replicate 258 false})).set 0 (.int .u64 (IntKind.u64.wrap (c.now+1)))=kC cb wb ({c with clo:=c.now,left:=c.noted,noted:=List.replicate 258 false,now:=IntKind.u64.wrap (c.now+1)}):=rfl
  rw[ec4]
  refine pA_ 6 ?_
  refine Lv Mf<|Lv Nz<|Lv (Fa 520 87)<|LeN (Eff.storeX (v:=stV cb 1) (l:=kC cb wb ({c with clo:=c.now,left:=c.noted,noted:=List.replicate 258 false,now:=IntKind.u64.wrap (c.now+1)})) (l':=kC cb wb ({c with clo:=c.now,left:=c.noted,noted:=List.replicate 258 false,now:=IntKind.u64.wrap (c.now+1),ph:=1})) rfl rfl rfl up_ (by exact kC_step (c:={c with clo:=c.now,left:=c.noted,noted:=List.replicate 258 false,now:=IntKind.u64.wrap (c.now+1)}) (th:=th) ⟨hk.1,by simp,hk.2.1⟩ 1) (by rw[kC_len (th:=th) (by exact⟨hk.1,by simp,hk.2.1⟩)];omega) Tryz.sizeOf87) fun _ _=>pA_ 9 ?_
  have e2:kC cb wb ({c with clo:=c.now,left:=c.noted,noted:=List.replicate 258 false,now:=IntKind.u64.wrap (c.now+1),ph:=1})=kC cb wb {c with now:=IntKind.u64.wrap (c.now+1),clo:=c.now,owed:=List.replicate c.owed.length 0,noted:=List.replicate 258 false,left:=c.noted,ph:=1}:=by unfold kC ckC ckk;simp only[List.length_replicate]
  rw[e2]
  intro w' hw;exact⟨(),trivial,rfl,hw.pick (ss:=[[(cb,.cells (kC cb wb {c with now:=IntKind.u64.wrap (c.now+1),clo:=c.now,owed:=List.replicate c.owed.length 0,noted:=List.replicate 258 false,left:=c.noted,ph:=1}).toArray 89 (0,0))],[(wb,.cells ((List.replicate c.owed.length 0).flatMap inI).toArray 3 (0,0))]]) pk_⟩
 ·have e0:kBeginE c=7:=if_neg h0
  have e1:kBegin c=c:=if_neg h0
  rw[e0,e1]
  refine Ca_ Tryz.func8 rfl Tryz.ntmps8 hs<|pA_ 20 ?_
  refine Le (CV fun w hw=>uLd_c cb 0 (kC cb wb c) 89 c.now w rfl (hw.sat.pick (ss:=[[(cb,.cells (kC cb wb c).toArray 89 (0,0))]]) pk_)) fun _ _=>pA_ 10 ?_
  refine Le (Cr_ (uMiss_c cb 2 (kC cb wb c) 89 c.clo rfl 0 c.now h0)) fun _ _=>pA_ 12 ?_
  exact fi_ () trivial
theorem kowed_g (cb wb:Nat)(c:Ck)(th:Nat)(h4:th≤1000)(hk:c.Ok th)(w:World)(hs:Sat (kS cb wb c) w):Calls Tryz.prog 215 [.pointer (some ⟨cb,0,none⟩)].toArray w fun e w'=>∃o:V.OwnO,ownOk 1 c.owed.length (c.owed.flatMap inI) o∧e= .returned (ownV c.owed.length o)∧Hp ⟨w,[]⟩ ([ownG 3 (c.owed.flatMap inI) o]) w':=by
 refine Cb_ Tryz.func215 rfl Tryz.ntmps215<|pA_ 17 ?_
 refine Le (Eff.buildSlice0 Tryz.underlying23 Tryz.sizeOf3) fun b5 _=>pA_ 3 ?_
 refine Lv (Val.loadO rfl Tryz.isAgg23 (hs.lt (k:=cb) (by simp[V.ids])) (by simp[V.ids]) (V.cell_of_block (o:=3) (hs.own (cb,.cells (kC cb wb c).toArray 89 (0,0)) (by simp[kC])) rfl))<|Le (Eff.appendAny (c.owed.flatMap inI) (sz:=1) (bytes:=8) (z:= .int .i64 0) (xs:=[]) (m0:=0) (o:=some (b5,[],0)) (m:=c.owed.length) (pk:=[ownG 3 [] (some (b5,[],0))]) rfl rfl Tryz.underlying23 kr_ rfl om_ pk_ (by simp) ⟨rfl,rfl⟩ (by rw[V.flatMap_len inI_len]) (fun hm0=>⟨wb,0,rfl,fun w' hw=>(by have h1:=hw.below;exact V.range_of_block (o:=0) (cs:=c.owed.flatMap inI) (r:=[]) ((hs.below h1).own (wb,.cells (c.owed.flatMap inI).toArray 3 (0,0)) (by simp[ckk])) (by simp))⟩) (by rw[inI_map];simp[oneI]) (by have:=hk.1;omega) (by have:=hk.1;omega)) fun o2 ho2=>?_
 rw[Nat.zero_add,List.nil_append] at ho2
 refine pA_ 5 ?_
 intro w' hw;exact⟨o2,ho2,by rw[Nat.zero_add],hw.pick pk_⟩
def kFlush (c:Ck)(v:Dev):Ck×Dev×Int:=match firstT c.left with|some k=>({c with left:=c.left.set k false},v.flush (k:Nat),1)|none=>({c with ph:=2},v.fence,2)
theorem kflush_g (cb wb:Nat)(c:Ck)(th:Nat)(hk:c.Ok th)(x:DvR)(v:Dev)(hv:v.D.length≤1000):Mo Tryz.prog 32 [.pointer (some ⟨cb,0,none⟩),.pointer (some ⟨x.db,0,none⟩)] (kS cb wb c++vS x v) (fun _u:Unit=>True) (fun _=> .int .i64 (kFlush c v).2.2) (fun _=>kS cb wb (kFlush c v).1++vS x (kFlush c v).2.1):=by
 intro w hs
 refine Ca_ Tryz.func32 rfl Tryz.ntmps32 hs<|pA_ 11 ?_
 refine Lv (La (c.left.map Value.bool) (r:=[stV cb c.ph]) (hl:=kC_drop_left hk) (hs:=by rw[List.length_map,hk.2.2];exact Tryz.sizeOf86))<|pA_ 4 ?_
 refine loopA (γ:=Nat) (fun k=>[(0,.pointer (some ⟨cb,0,none⟩)),(1,.pointer (some ⟨x.db,0,none⟩)),(10,.agg (c.left.map Value.bool).toArray),(11,.int .i64 (k:Nat))]) (fun _=>(kS cb wb c++vS x v)) (fun k=>k≤258∧∀j,j<k→c.left[j]? =some false) (fun k=>258-k) (0) ⟨Nat.zero_le _,fun j hj=>absurd hj om_⟩ fun k=>?_
 rintro⟨hk1,hk2⟩
 refine pA_ 6 ?_
 refine Cd_ rfl (fun h12=>?_) fun h12=>?_
 ·obtain⟨b,hlk⟩:∃b,c.left[k]? =some b:=⟨c.left[k]'(by have:=hk.2.2;omega),by simp⟩
  refine pA_ 7 ?_
  refine LW.v rfl rfl (Val.indexArr (v:= .bool b) rfl rfl Tryz.underlying86 Tryz.sizeOf4 Tryz.isAgg4 om_ (by rw[List.getElem?_map,hlk];rfl)) ?_
  refine pA_ 9 ?_
  refine Cd_ rfl (fun h15=>?_) fun h15=>?_
  ·have h15:b=true:=by simpa using h15
   subst h15
   refine pA_ 6 ?_
   refine Lv (Val.indexAddrA (i:=k) rfl rfl Tryz.underlying86 Tryz.sizeOf4 om_)<|LeN (Eff.storeX (v:= .bool false) (l:=kC cb wb c) (l':=kC cb wb ({c with left:=c.left.set k false})) rfl rfl rfl up_ (by have h8:=kC_unleft (cb:=cb) (wb:=wb) hk k om_ false;simpa using h8) (by rw[kC_len hk];omega) Tryz.sizeOf4) fun _ _=>pA_ 6 ?_
   refine Le (Cm_ (flush_g x v.D v.k (k:Nat))) fun _ _=>pA_ 14 ?_
   have e1:firstT c.left=some k:=firstT_at hk2 hlk
   have e2:kFlush c v=({c with left:=c.left.set k false},v.flush (k:Nat),1):=by unfold kFlush;rw[e1]
   rw[e2]
   intro w' hw;exact⟨(),trivial,rfl,hw.pick (ss:=[(cb,.cells (kC cb wb ({c with left:=c.left.set k false})).toArray 89 (0,0))]::[(wb,.cells (c.owed.flatMap inI).toArray 3 (0,0))]::vS x (v.flush (k:Nat))) pk_⟩
  ·have h15:b=false:=by simpa using h15
   subst h15
   refine pA_ 7 ?_
   exact roundA (k+1) ⟨by omega,fun j hj=>by by_cases e:j=k;(subst e;exact hlk);exact hk2 j om_⟩ om_
 ·refine pA_ 8 ?_
  refine Le (Cm_ (fence_g x v.D v.k om_)) fun _ _=>pA_ 6 ?_
  refine Lv Mf<|Lv Nz<|Lv (Fa 520 87)<|LeN (Eff.storeX (v:=stV cb 2) (l:=kC cb wb (c)) (l':=kC cb wb ({c with ph:=2})) rfl rfl rfl up_ (by exact kC_step (c:=c) (th:=th) hk 2) (by rw[kC_len (th:=th) (by exact hk)];omega) Tryz.sizeOf87) fun _ _=>pA_ 9 ?_
  have e1:firstT c.left=none:=firstT_no (fun j hj=>hk2 j (by have:=hk.2.2;omega))
  have e2:kFlush c v=({c with ph:=2},v.fence,2):=by unfold kFlush;rw[e1]
  rw[e2]
  intro w' hw;exact⟨(),trivial,rfl,hw.pick (ss:=[(cb,.cells (kC cb wb {c with ph:=2}).toArray 89 (0,0))]::[(wb,.cells (c.owed.flatMap inI).toArray 3 (0,0))]::vS x v.fence) pk_⟩
theorem kstore_g (cb wb:Nat)(c:Ck)(th:Nat)(hk:c.Ok th)(x:DvR)(v:Dev)(hv:v.D.length≤1000):Mo Tryz.prog 66 [.pointer (some ⟨cb,0,none⟩),.pointer (some ⟨x.db,0,none⟩)] (kS cb wb c++vS x v) (fun _u:Unit=>True) (fun _=> .int .i64 3) (fun _=>kS cb wb {c with ph:=3}++vS x (v.store 1 0 (clockL c.clo))):=by
 intro w hs
 refine Ca_ Tryz.func66 rfl Tryz.ntmps66 hs<|Sq<|Rg<|Lv Av<|Nl<|Ps<|Sq<|Rg<|Lv Mv<|Lv Mv<|Lv Nz<|Lv (Fa 2 74)<|Le (CV fun w hw=>uLd_c cb 2 (kC cb wb c) 89 c.clo w rfl (hw.sat.pick (ss:=[[(cb,.cells (kC cb wb c).toArray 89 (0,0))]]) pk_)) fun _ _=>Le (Cn_ (Clock_c c.clo)) fun b10 _=>Le (CM (vS x v) fun w hw hs0=>by have h8:=store_v x v 1 0 (clockL c.clo) (some ⟨b10,0,none⟩) 64 (by rw[clockL_len];omega) w hs0 (byE_of (hw.own _ (show InS (b10,.cells (byC (clockL c.clo)).toArray 185 (0,0)) _ from in_).mem)) (fun _ b o hb=>by simp only[Option.some.injEq,Addr.mk.injEq] at hb;obtain⟨rfl,_⟩:=hb;exact not_in hw (show Pick (vS x v) _ _ from pk_) (show InS (b10,.cells (byC (clockL c.clo)).toArray 185 (0,0)) _ from in_));rw[clockL_len] at h8;exact h8) fun _ _=>Nl<|Ps<|Sq<|Rg<|Lv Mv<|Lv Mv<|Lv Mf<|Lv Nz<|Lv (Fa 520 87)<|LeN (Eff.storeX (v:=stV cb 3) (l:=kC cb wb (c)) (l':=kC cb wb ({c with ph:=3})) rfl rfl rfl up_ (by exact kC_step (c:=c) (th:=th) hk 3) (by rw[kC_len (th:=th) (by exact hk)];omega) Tryz.sizeOf87) fun _ _=>Nl<|Ps<|Sq<|Rg<|Lv Av<|Nl<|Ps<|Rt<|Rt1 ?_
 intro w' hw;exact⟨(),trivial,rfl,hw.pick (ss:=[(cb,.cells (kC cb wb {c with ph:=3}).toArray 89 (0,0))]::[(wb,.cells (c.owed.flatMap inI).toArray 3 (0,0))]::vS x (v.store 1 0 (clockL c.clo))) pk_⟩
theorem ksend_g (cb wb:Nat)(c:Ck)(th:Nat)(hk:c.Ok th)(x:DvR)(v:Dev)(hv:v.D.length≤1000):Mo Tryz.prog 89 [.pointer (some ⟨cb,0,none⟩),.pointer (some ⟨x.db,0,none⟩)] (kS cb wb c++vS x v) (fun _u:Unit=>True) (fun _=> .int .i64 1) (fun _=>kS cb wb {c with ph:=4}++vS x (v.flush 1)):=by
 intro w hs
 refine Ca_ Tryz.func89 rfl Tryz.ntmps89 hs<|pA_ 8 ?_
 refine Le (Cm_ (flush_g x v.D v.k 1)) fun _ _=>pA_ 6 ?_
 refine Lv Mf<|Lv Nz<|Lv (Fa 520 87)<|LeN (Eff.storeX (v:=stV cb 4) (l:=kC cb wb (c)) (l':=kC cb wb ({c with ph:=4})) rfl rfl rfl up_ (by exact kC_step (c:=c) (th:=th) hk 4) (by rw[kC_len (th:=th) (by exact hk)];omega) Tryz.sizeOf87) fun _ _=>pA_ 9 ?_
 intro w' hw;exact⟨(),trivial,rfl,hw.pick (ss:=[(cb,.cells (kC cb wb {c with ph:=4}).toArray 89 (0,0))]::[(wb,.cells (c.owed.flatMap inI).toArray 3 (0,0))]::vS x (v.flush 1)) pk_⟩
theorem kend_g (cb wb:Nat)(c:Ck)(th:Nat)(hk:c.Ok th)(x:DvR)(v:Dev)(hv:v.D.length≤1000):Mo Tryz.prog 125 [.pointer (some ⟨cb,0,none⟩),.pointer (some ⟨x.db,0,none⟩)] (kS cb wb c++vS x v) (fun _u:Unit=>True) (fun _=> .int .i64 2) (fun _=>kS cb wb {c with dur:=c.clo,clo:=0,ph:=0}++vS x v.fence):=by
 intro w hs
 refine Ca_ Tryz.func125 rfl Tryz.ntmps125 hs<|pA_ 8 ?_
 refine Le (Cm_ (fence_g x v.D v.k om_)) fun _ _=>pA_ 3 ?_
 refine Dr ([])<|pR_ [0,1,2,3,4,5] ?_
 refine Re 6 rfl (CV fun w hw=>uLd_c cb 2 (kC cb wb c) 89 c.clo w rfl (hw.sat.pick (ss:=[[(cb,.cells (kC cb wb c).toArray 89 (0,0))]]) pk_)) fun _ _=>Re 7 rfl (CM ([[(cb,.cells (kC cb wb (c)).toArray 89 (0,0))]]) fun w hw hs0=>aStore_c cb 1 (kC cb wb (c)) 89 _ (c.clo) w rfl hs0) fun _ _=>?_
 have ec1:(kC cb wb (c)).set 1 (.int .u64 (c.clo))=kC cb wb ({c with dur:=c.clo}):=rfl
 rw[ec1]
 refine pA_ 7 ?_
 refine Le (CM ([[(cb,.cells (kC cb wb ({c with dur:=c.clo})).toArray 89 (0,0))]]) fun w hw hs0=>aStore_c cb 2 (kC cb wb ({c with dur:=c.clo})) 89 _ (0) w rfl hs0) fun _ _=>?_
 have ec2:(kC cb wb ({c with dur:=c.clo})).set 2 (.int .u64 (0))=kC cb wb ({c with dur:=c.clo,clo:=0}):=rfl
 rw[ec2]
 refine pA_ 7 ?_
 refine LeN (Eff.storeX (v:=stV cb 0) (l:=kC cb wb ({c with dur:=c.clo,clo:=0})) (l':=kC cb wb ({c with dur:=c.clo,clo:=0,ph:=0})) rfl rfl rfl up_ (by exact kC_step (c:={c with dur:=c.clo,clo:=0}) (th:=th) hk 0) (by rw[kC_len (th:=th) (by exact hk)];omega) Tryz.sizeOf87) fun _ _=>pA_ 9 ?_
 intro w' hw;exact⟨(),trivial,rfl,hw.pick (ss:=[(cb,.cells (kC cb wb ({c with dur:=c.clo,clo:=0,ph:=0})).toArray 89 (0,0))]::[(wb,.cells (c.owed.flatMap inI).toArray 3 (0,0))]::vS x v.fence) pk_⟩
theorem kstep_g (cb wb:Nat)(c:Ck)(th:Nat)(hk:c.Ok th)(hp:c.Ph)(x:DvR)(v:Dev)(hv:v.D.length≤1000):Mo Tryz.prog 9 [.pointer (some ⟨cb,0,none⟩),.pointer (some ⟨x.db,0,none⟩)] (kS cb wb c++vS x v) (fun _u:Unit=>True) (fun _=> .tuple #[.int .i64 (kStep c v).2.2,.int .i64 (kStepE c)]) (fun _=>kS cb wb (kStep c v).1++vS x (kStep c v).2.1):=by
 intro w hs
 by_cases h0:c.clo=0
 ·have e0:kStepE c=12:=if_pos h0
  have e1:kStep c v=(c,v,0):=if_pos h0
  rw[e0,e1]
  refine Ca_ Tryz.func9 rfl Tryz.ntmps9 hs<|pA_ 26 ?_
  refine Le (CV fun w hw=>uLd_c cb 2 (kC cb wb c) 89 c.clo w rfl (hw.sat.pick (ss:=[[(cb,.cells (kC cb wb c).toArray 89 (0,0))]]) pk_)) fun _ _=>Lv Cm<|LW.re 16 (.bool true) rfl (by rw[h0];rfl)<|pA_ 12 ?_
  exact fi_ () trivial
 ·have h9:c.ph=1∨c.ph=2∨c.ph=3∨c.ph=4:=by
   have h1:=hp.2
   have h2:c.ph≠0:=fun h=>h0 (hp.1.2 h)
   omega
  rcases h9 with h1|h2|h3|h4
  ·have e0:kStepE c=0:=if_neg h0
   have e1:kStep c v=kFlush c v:=by unfold kStep kFlush;rw[if_neg h0,h1];rfl
   rw[e0,e1]
   refine Ca_ Tryz.func9 rfl Tryz.ntmps9 hs<|pA_ 26 ?_
   refine Le (CV fun w hw=>uLd_c cb 2 (kC cb wb c) 89 c.clo w rfl (hw.sat.pick (ss:=[[(cb,.cells (kC cb wb c).toArray 89 (0,0))]]) pk_)) fun _ _=>Lv Cm<|LW.re 16 (.bool false) rfl (by simp[h0])<|pA_ 10 ?_
   refine Lv (Ld (v:=stV cb 1) (hl:=by rw[← h1];exact kC_stp hk))<|Lv Mv<|Le (Eff.callBM (f:=32) (pre:=[.pointer (some ⟨cb,0,none⟩)]) (caps:=[]) ((kS cb wb c++vS x v)) pk_ rfl rfl Tryz.call32 (fun w hw hs0=>kflush_g cb wb c th hk x v hv w hs0)) fun _ _=>pA_ 6 ?_
   exact fi_ () trivial
  ·have e0:kStepE c=0:=if_neg h0
   have e1:kStep c v=({c with ph:=3},v.store 1 0 (clockL c.clo),3):=by unfold kStep;rw[if_neg h0,h2];rfl
   rw[e0,e1]
   refine Ca_ Tryz.func9 rfl Tryz.ntmps9 hs<|pA_ 26 ?_
   refine Le (CV fun w hw=>uLd_c cb 2 (kC cb wb c) 89 c.clo w rfl (hw.sat.pick (ss:=[[(cb,.cells (kC cb wb c).toArray 89 (0,0))]]) pk_)) fun _ _=>Lv Cm<|LW.re 16 (.bool false) rfl (by simp[h0])<|pA_ 10 ?_
   refine Lv (Ld (v:=stV cb 2) (hl:=by rw[← h2];exact kC_stp hk))<|Lv Mv<|Le (Eff.callBM (f:=66) (pre:=[.pointer (some ⟨cb,0,none⟩)]) (caps:=[]) ((kS cb wb c++vS x v)) pk_ rfl rfl Tryz.call66 (fun w hw hs0=>kstore_g cb wb c th hk x v hv w hs0)) fun _ _=>pA_ 6 ?_
   exact fi_ () trivial
  ·have e0:kStepE c=0:=if_neg h0
   have e1:kStep c v=({c with ph:=4},v.flush 1,1):=by unfold kStep;rw[if_neg h0,h3];rfl
   rw[e0,e1]
   refine Ca_ Tryz.func9 rfl Tryz.ntmps9 hs<|pA_ 26 ?_
   refine Le (CV fun w hw=>uLd_c cb 2 (kC cb wb c) 89 c.clo w rfl (hw.sat.pick (ss:=[[(cb,.cells (kC cb wb c).toArray 89 (0,0))]]) pk_)) fun _ _=>Lv Cm<|LW.re 16 (.bool false) rfl (by simp[h0])<|pA_ 10 ?_
   refine Lv (Ld (v:=stV cb 3) (hl:=by rw[← h3];exact kC_stp hk))<|Lv Mv<|Le (Eff.callBM (f:=89) (pre:=[.pointer (some ⟨cb,0,none⟩)]) (caps:=[]) ((kS cb wb c++vS x v)) pk_ rfl rfl Tryz.call89 (fun w hw hs0=>ksend_g cb wb c th hk x v hv w hs0)) fun _ _=>pA_ 6 ?_
   exact fi_ () trivial
  ·have e0:kStepE c=0:=if_neg h0
   have e1:kStep c v=({c with dur:=c.clo,clo:=0,ph:=0},v.fence,2):=by unfold kStep;rw[if_neg h0,h4];rfl
   rw[e0,e1]
   refine Ca_ Tryz.func9 rfl Tryz.ntmps9 hs<|pA_ 26 ?_
   refine Le (CV fun w hw=>uLd_c cb 2 (kC cb wb c) 89 c.clo w rfl (hw.sat.pick (ss:=[[(cb,.cells (kC cb wb c).toArray 89 (0,0))]]) pk_)) fun _ _=>Lv Cm<|LW.re 16 (.bool false) rfl (by simp[h0])<|pA_ 10 ?_
   refine Lv (Ld (v:=stV cb 4) (hl:=by rw[← h4];exact kC_stp hk))<|Lv Mv<|Le (Eff.callBM (f:=125) (pre:=[.pointer (some ⟨cb,0,none⟩)]) (caps:=[]) ((kS cb wb c++vS x v)) pk_ rfl rfl Tryz.call125 (fun w hw hs0=>kend_g cb wb c th hk x v hv w hs0)) fun _ _=>pA_ 6 ?_
   exact fi_ () trivial
end
section
attribute [local irreducible] V.CW V.LW V.QW V.RW V.PQ V.Val V.Eff V.Qcall
open V (str byC ownV ownG ownS ownOk)
instance:Und Tryz.prog 360 (dOf Tryz.underlying360):=⟨Tryz.underlying360⟩
instance:Siz Tryz.prog 360 (kOf Tryz.sizeOf360):=⟨Tryz.sizeOf360⟩
instance:AgT Tryz.prog 360:=⟨Tryz.isAgg360⟩
instance:Zer Tryz.prog 360 (zOf Tryz.zeroValue360):=⟨Tryz.zeroValue360⟩
instance:Cal Tryz.prog 274:=⟨Tryz.call274⟩
def enV (x:Ent):Value:= .agg (enC x).toArray
def en0:Ent:=⟨0,0,0,0,0⟩
def mayE (x:Ent):Prop:=2≤x.line∧x.line<258∧0≤x.cls∧x.cls≤3∧ -1≤x.anti∧x.anti<258
instance (x:Ent):Decidable (mayE x):=inferInstanceAs (Decidable (_∧_))
def bPut (l:List Ent)(x:Ent):List Ent:=if mayE x∧l.length<258 then l++[x] else l
def bPutE (l:List Ent)(x:Ent):Int:=if mayE x then(if l.length<258 then 0 else 11) else 1
theorem mayE_b {b:Bool}{x:Ent}(h:b=true↔mayE x):b=decide (mayE x):=by rw[Bool.eq_iff_iff,decide_eq_true_iff];exact h
theorem span_pos (c:Int):0<spanF c↔0≤c∧c≤3:=by
 rcases spanF_cases c with⟨h,h2⟩|⟨h,h2⟩|⟨h,h2⟩|⟨h,h2⟩|⟨h,h2⟩<;>rw[h2]<;>omega
theorem bmay_c (x:Ent):Rz Tryz.prog 274 [enV x] (.bool (decide (mayE x))):=by
 intro w
 have hsp8:=span_pos x.cls
 refine Cb_ Tryz.func274 rfl Tryz.ntmps274<|Sq<|Rg<|Le XA fun b1 _=>pA_ 6 ?_
 refine Lv Ld<|Lv Cm<|Lv Mv ?_
 refine LW.split (d:=6) rfl (fun h6=>?_) (fun h6=>?_)
 ·replace h6:=bT h6
  refine Lv (Fa 0 3)<|Lv Ld<|pA_ 3 ?_
  refine LW.split (d:=11) rfl (fun h11=>?_) (fun h11=>?_)
  ·replace h11:=bT h11
   refine Lv (Fa 1 3)<|Lv Ld<|Le (Cz_ (span_c x.cls)) fun _ _=>pA_ 3 ?_
   refine LW.split (d:=17) rfl (fun h17=>?_) (fun h17=>?_)
   ·replace h17:=bT h17
    refine Lv (Fa 4 3)<|Lv Ld<|pA_ 3 ?_
    refine LW.split (d:=22) rfl (fun h22=>?_) (fun h22=>?_)
    ·replace h22:=bT h22
     refine Lv (Fa 4 3)<|Lv Ld<|pA_ 6 ?_
     refine Rt1 fun w' hw=>?_
     refine⟨?_,hw.below⟩
     congr 2
     refine mayE_b ?_
     unfold mayE
     simp only[decide_eq_true_eq]
     omega
    ·replace h22:=bF h22
     refine pA_ 8 ?_
     refine Rt1 fun w' hw=>?_
     refine⟨?_,hw.below⟩
     congr 2
     refine mayE_b ?_
     unfold mayE
     simp only[Bool.false_eq_true,false_iff]
     omega
   ·replace h17:=bF h17
    refine pA_ 13 ?_
    refine Rt1 fun w' hw=>?_
    refine⟨?_,hw.below⟩
    congr 2
    refine mayE_b ?_
    unfold mayE
    simp only[Bool.false_eq_true,false_iff]
    omega
  ·replace h11:=bF h11
   refine pA_ 19 ?_
   refine Rt1 fun w' hw=>?_
   refine⟨?_,hw.below⟩
   congr 2
   refine mayE_b ?_
   unfold mayE
   simp only[Bool.false_eq_true,false_iff]
   omega
 ·replace h6:=bF h6
  refine pA_ 24 ?_
  refine Rt1 fun w' hw=>?_
  refine⟨?_,hw.below⟩
  congr 2
  refine mayE_b ?_
  unfold mayE
  simp only[Bool.false_eq_true,false_iff]
  omega
theorem bput_g (b:Nat)(o:V.OwnO)(l:List Ent)(hk:ownOk 5 l.length (l.flatMap enC) o)(hl:l.length≤100000)(x:Ent):Mo Tryz.prog 259 [.pointer (some ⟨b,0,none⟩),enV x] (bgS b l o) (fun o':V.OwnO=>ownOk 5 (bPut l x).length ((bPut l x).flatMap enC) o') (fun _=> .int .i64 (bPutE l x)) (fun o'=>bgS b (bPut l x) o'):=by
 intro w hs
 refine Ca_ Tryz.func259 rfl Tryz.ntmps259 hs<|Sq<|Rg<|Le XA fun b3 _=>pA_ 9 ?_
 refine Lv Lw<|Le (Cz_ (bmay_c x)) fun _ _=>pA_ 4 ?_
 refine Cd_ rfl (fun h11=>?_) fun h11=>?_
 ·have hm:¬mayE x:=by simpa using h11
  refine pA_ 8 ?_
  have e1:bPut l x=l:=if_neg (fun h=>hm h.1)
  have e2:bPutE l x=1:=if_neg hm
  rw[e1,e2]
  exact fi_ o hk
 ·have hm:mayE x:=by simpa using h11
  refine pA_ 8 ?_
  refine Lv Ld<|Lv (Val.lenOwn rfl Tryz.underlying198 hk)<|pA_ 3 ?_
  refine Cd_ rfl (fun h17=>?_) fun h17=>?_
  ·refine pA_ 8 ?_
   have e1:bPut l x=l:=if_neg (fun h=>by omega)
   have e2:bPutE l x=11:=(if_pos hm).trans (if_neg om_)
   rw[e1,e2]
   exact fi_ o hk
  ·refine pA_ 3 ?_
   refine Dr ([[(b3,.cells (enC x).toArray 360 (0,0))]])<|pR_ [0,1,2,3] ?_
   refine Rv 5 rfl Lw<|RW.any [4,6] kr_ (by simp) fun i hi=>?_
   simp only[List.mem_cons,List.not_mem_nil,or_false] at hi
   rcases hi with rfl|rfl
   ·refine Ro rfl (Eff.ofVal (Ld (v:=ownV l.length o))) fun _ _=>Re 6 rfl (Eff.buildSlice (rfl) [_,_,_,_,_] Tryz.underlying198 Tryz.sizeOf360 (by exact Tryz.zeroValue360) rfl rfl rfl rfl (by rfl)) fun b24 _=>Re 7 rfl (Eff.appendAny (enC x) (sz:=5) (bytes:=40) (z:= .agg #[.int .i64 0,.int .i64 0,.int .u64 0,.int .u64 0,.int .i64 0]) (xs:=l.flatMap enC) (m0:=l.length) (o:=o) (m:=1) (pk:=[ownG 360 (l.flatMap enC) (o)]) rfl rfl Tryz.underlying198 kr_ rfl om_ pk_ (by simp) hk (by rfl) (fun hm0=>⟨b24,0,rfl,fun w hw=>V.range_of_block (o:=0) (cs:=enC x) (r:=[]) (hw.own _ (show InS (b24,.cells (enC x).toArray 360 (0,0)) _ from in_).mem) rfl⟩) (by rfl) om_ om_) fun o2 ho2=>Rv 8 rfl Nz<|Rv 9 rfl (Fa 0 198)<|ReN 10 rfl (StS (h1:=V.ownV_one _ _)) fun _ _=>Rd<|Ps<|Sq<|Rg<|Lv Av<|Nl<|Ps<|Rt<|Rt1 ?_
    have e1:bPut l x=l++[x]:=if_pos ⟨hm,by omega⟩
    have e2:bPutE l x=0:=(if_pos hm).trans (if_pos om_)
    rw[e1,e2]
    have ea:(l++[x]).flatMap enC=l.flatMap enC++enC x:=by simp
    have el:(l++[x]).length=l.length+1:=by simp
    unfold bgS
    rw[ea,el]
    exact fi_ o2 ho2
   ·refine Ro rfl (Eff.buildSlice (rfl) [_,_,_,_,_] Tryz.underlying198 Tryz.sizeOf360 (by exact Tryz.zeroValue360) rfl rfl rfl rfl (by rfl)) fun b24 _=>Re 4 rfl (Eff.ofVal (Ld (v:=ownV l.length o))) fun _ _=>Re 7 rfl (Eff.appendAny (enC x) (sz:=5) (bytes:=40) (z:= .agg #[.int .i64 0,.int .i64 0,.int .u64 0,.int .u64 0,.int .i64 0]) (xs:=l.flatMap enC) (m0:=l.length) (o:=o) (m:=1) (pk:=[ownG 360 (l.flatMap enC) (o)]) rfl rfl Tryz.underlying198 kr_ rfl om_ pk_ (by simp) hk (by rfl) (fun hm0=>⟨b24,0,rfl,fun w hw=>V.range_of_block (o:=0) (cs:=enC x) (r:=[]) (hw.own _ (show InS (b24,.cells (enC x).toArray 360 (0,0)) _ from in_).mem) rfl⟩) (by rfl) om_ om_) fun o2 ho2=>Rv 8 rfl Nz<|Rv 9 rfl (Fa 0 198)<|ReN 10 rfl (StS (h1:=V.ownV_one _ _)) fun _ _=>Rd<|Ps<|Sq<|Rg<|Lv Av<|Nl<|Ps<|Rt<|Rt1 ?_
    have e1:bPut l x=l++[x]:=if_pos ⟨hm,by omega⟩
    have e2:bPutE l x=0:=(if_pos hm).trans (if_pos om_)
    rw[e1,e2]
    have ea:(l++[x]).flatMap enC=l.flatMap enC++enC x:=by simp
    have el:(l++[x]).length=l.length+1:=by simp
    unfold bgS
    rw[ea,el]
    exact fi_ o2 ho2
end
section
attribute [local irreducible] V.CW V.LW V.QW V.RW V.PQ V.Val V.Eff V.Qcall
open V (str byC ownV ownG ownS ownOk)
instance:Cal Tryz.prog 288:=⟨Tryz.call288⟩
theorem en_one (l:List Ent):(l.flatMap enC).all (·.oneCell')=true:=by
 induction l with
 |nil=>rfl
 |cons f r ih=>rw[List.flatMap_cons,List.all_append,ih];rfl
theorem cloneEn_c (l:List Ent)(p:Option Addr)(c:Nat)(hl:l.length≤100000)(w:World)(h:V.slAt w p 5 enC l):Calls Tryz.prog 288 [.slice p l.length c].toArray w fun e w'=>∃o:V.OwnO,ownOk 5 l.length (l.flatMap enC) o∧e= .returned (ownV l.length o)∧Hp ⟨w,[]⟩ [ownG 360 (l.flatMap enC) o] w':=by
 haveI:Inhabited Ent:=⟨en0⟩
 refine Cb_ Tryz.func288 rfl Tryz.ntmps288<|pA_ 9 ?_
 refine Lv (Val.eqSlNil rfl rfl Tryz.underlying198)<|Nl<|Ps ?_
 refine Cd_ rfl (fun h4=>?_) fun h4=>?_
 ·have hpn:p=none:=by cases p with|none=>rfl|some q=>simp at h4
  obtain rfl:l=[]:=by
   rcases h with h|⟨b,o,h,_⟩
   ·exact h
   ·rw[hpn] at h;cases h
  refine pA_ 8 ?_
  intro w' hw;exact⟨none,⟨rfl,rfl⟩,rfl,hw.perm (.refl _)⟩
 ·refine pA_ 4 ?_
  refine Le (Eff.buildSlice0 Tryz.underlying198 Tryz.sizeOf360) fun b5 _=>Lv Mv<|Le (Eff.appendAny (l.flatMap enC) (sz:=5) (bytes:=40) (z:= .agg #[.int .i64 0,.int .i64 0,.int .u64 0,.int .u64 0,.int .i64 0]) (xs:=[]) (m0:=0) (o:=some (b5,[],0)) (m:=l.length) (pk:=[ownG 360 [] (some (b5,[],0))]) rfl rfl Tryz.underlying198 kr_ rfl om_ pk_ (by simp) ⟨rfl,rfl⟩ (V.flatMap_len enC_len _) (fun hm0=>by obtain⟨b8,o8,h8,h9⟩:=sl_range (F:=[]) enC_len h hm0 (by simp);exact⟨b8,o8,h8,fun w1 hw1=>h9 w1 hw1⟩) (en_one l) om_ om_) fun o2 ho2=>?_
  have h2:ownOk 5 l.length (l.flatMap enC) o2:=by simpa using ho2
  rw[List.nil_append,Nat.zero_add]
  refine pA_ 5 ?_
  exact fi_ o2 h2
theorem ball_g (b:Nat)(o:V.OwnO)(l:List Ent)(hk:ownOk 5 l.length (l.flatMap enC) o)(hl:l.length≤100000)(w:World)(hs:Sat (bgS b l o) w):Calls Tryz.prog 270 [.pointer (some ⟨b,0,none⟩)].toArray w fun e w'=>∃y:V.OwnO,ownOk 5 l.length (l.flatMap enC) y∧e= .returned (ownV l.length y)∧Hp ⟨w,V.ids ((bgS b l o))⟩ (ownG 360 (l.flatMap enC) y::bgS b l o) w':=by
 obtain⟨pl,cl,hvl,_,hsl⟩:=own_slg (e:=360) enC_len l o hk
 refine Cs_ (bgS b l o) Tryz.func270 rfl Tryz.ntmps270 hs<|pA_ 20 ?_
 refine Lv (Ld (v:=ownV l.length o))<|LW.re 8 (.slice pl l.length cl) rfl hvl<|Le (CM [] fun w hw hs0=>cloneEn_c l pl cl hl w (hsl hw pk_)) fun y hy=>pA_ 5 ?_
 exact fi_ y hy
theorem split_at {α:Type}{l:List α}{k:Nat}{x:α}(h:l[k]? =some x):l=l.take k++x::l.drop (k+1):=by
 have hlt:=(List.getElem?_eq_some_iff.1 h).1
 have h2:l.drop k=x::l.drop (k+1):=by
  rw[List.drop_eq_getElem_cons hlt]
  congr 1
  have:=List.getElem?_eq_getElem hlt
  rw[h] at this
  exact(Option.some.inj this).symm
 rw[← h2,List.take_append_drop]
end
section
attribute [local irreducible] V.CW V.LW V.QW V.RW V.PQ V.Val V.Eff V.Qcall
open V (str byC ownV ownG ownS ownOk)
theorem lk_one1 (l:List Lk):(l.flatMap lkC).all (·.oneCell')=true:=by
 induction l with
 |nil=>rfl
 |cons f r ih=>rw[List.flatMap_cons,List.all_append,ih];rfl
theorem delLk_c_dc {fa fx fc rest:List Value}{a c:Nat}(ha:fa.length=a*5)(hx:fx.length=5)(hc:fc.length=c*5):
 V.splice ((fa++(fx++(fc++rest))).take (a*5)++fc++(fa++(fx++(fc++rest))).drop (a*5+fc.length)) ((a+c)*5) [Value.string ⟨#[]⟩,.int .u64 0,.int .u64 0,.int .i64 0,.int .i64 0]=fa++(fc++([Value.string ⟨#[]⟩,.int .u64 0,.int .u64 0,.int .i64 0,.int .i64 0]++rest)):=by
 have h1:(fa++(fx++(fc++rest))).take (a*5)=fa:=by rw[← ha];simp
 have h2:(fa++(fx++(fc++rest))).drop (a*5+fc.length)=(fx++(fc++rest)).drop fc.length:=by
  rw[← ha,← List.drop_drop];simp
 have h3:(fx++(fc++rest)).drop fc.length=((fx++(fc++rest)).drop fc.length).take 5++rest:=by
  have h4:((fx++(fc++rest)).drop fc.length).drop 5=rest:=by
   rw[List.drop_drop]
   have:fc.length+5=(fx++fc).length:=by simp[hx];omega
   rw[this,← List.append_assoc];simp
  have h5:=(List.take_append_drop 5 ((fx++(fc++rest)).drop fc.length)).symm
  rw[h4] at h5
  exact h5
 rw[h1,h2,h3]
 have h6:=splice_mid0 [Value.string ⟨#[]⟩,.int .u64 0,.int .u64 0,.int .i64 0,.int .i64 0] (fa++fc) (((fx++(fc++rest)).drop fc.length).take 5) rest (by simp[hx];omega)
 have h7:(fa++fc).length=(a+c)*5:=by simp[ha,hc,Nat.add_mul]
 rw[h7] at h6
 simpa using h6
theorem delLk_c (g cap a c:Nat)(fa fx fc rest:List Value)(ha:fa.length=a*5)(hx:fx.length=5)(hc:fc.length=c*5)(h1:fc.all (·.oneCell')=true)(hcap:(a+1+c)*5+rest.length=cap*5)(hsz:a+1+c≤100000)(w:World)
 (hs:Sat [[(g,.cells (fa++(fx++(fc++rest))).toArray 108 (0,0))]] w):Calls Tryz.prog 272 [.slice (some ⟨g,0,none⟩) (a+1+c) cap,.int .i64 (a:Nat),.int .i64 ((a+1:Nat):Int)].toArray w fun e w'=>
  ∃_u:Unit,True∧e= .returned (.slice (some ⟨g,0,none⟩) (a+c) cap)∧Hp ⟨w,V.ids [[(g,.cells (fa++(fx++(fc++rest))).toArray 108 (0,0))]]⟩ [[(g,.cells (fa++(fc++([Value.string ⟨#[]⟩,.int .u64 0,.int .u64 0,.int .i64 0,.int .i64 0]++rest))).toArray 108 (0,0))]] w':=by
 have hle:a+1+c≤cap:=by omega
 refine Cs_ [[(g,.cells (fa++(fx++(fc++rest))).toArray 108 (0,0))]] Tryz.func272 rfl Tryz.ntmps272 hs<|pA_ 12 ?_
 refine Lv (Val.slice (a) (a+1) (a+1+c) rfl Tryz.underlying104 Tryz.sizeOf108 ⟨_,rfl⟩ ⟨_,rfl⟩ ⟨_,rfl⟩ (by intro h;first|rfl|cases h) om_ om_ om_)<|pA_ 10 ?_
 refine CW.cond rfl (fun h16=>?_) (fun h16=>?_)
 ·exact absurd (bT h16) om_
 ·replace h16:=bF h16
  refine pA_ 10 ?_
  refine Dr ([])<|pR_ [0,1] ?_
  refine Rv 2 rfl (Val.slice (0) (a) (cap) rfl Tryz.underlying104 Tryz.sizeOf108 rfl ⟨_,rfl⟩ rfl (by intro h;first|rfl|cases h) om_ om_ om_)<|RW.re 22 (.slice (some ⟨g,0,none⟩) a cap) rfl (by simp)<|pR_ [3,4] ?_
  refine Rv 5 rfl (Val.slice (a+1) (a+1+c) (cap) rfl Tryz.underlying104 Tryz.sizeOf108 ⟨_,rfl⟩ rfl rfl (by intro h;first|rfl|cases h) om_ om_ om_)<|RW.re 25 (.slice (some ⟨g,if cap=a+1 then 0 else(a+1)*5,none⟩) c (cap-(a+1))) rfl (by congr 1<;>first|omega|simp)<|Re 6 rfl (Eff.appendIn (sz:=5) (bytes:=48) (z:= .agg #[.string ⟨#[]⟩,.int .u64 0,.int .u64 0,.int .i64 0,.int .i64 0]) (cur:=(fa++(fx++(fc++rest)))) (news:=fc) (r':=rest) (i:=a) (m:=c) rfl rfl Tryz.underlying104 kr_ up_ rfl hc (by by_cases hz:cap=a+1;(left;omega);right;rw[if_neg hz,show(a+1)*5=(fa++fx).length by simp[ha,hx];omega,← List.append_assoc];simp) h1 om_ (by simp[ha,hx,hc];omega)) fun _ _=>Rv 7 rfl Av<|pA_ 8 ?_
  refine Lv (Val.slice (a+c) (a+1+c) (cap) rfl Tryz.underlying104 Tryz.sizeOf108 ⟨_,rfl⟩ ⟨_,rfl⟩ rfl (by intro h;first|rfl|cases h) om_ om_ om_)<|LW.re 31 (.slice (some ⟨g,(a+c)*5,none⟩) (0+1) (cap-(a+c))) rfl (by rw[if_neg om_];congr 1<;>first|omega|simp)<|LeN (Eff.clear (m:=0) (zl:=[Value.string ⟨#[]⟩,.int .u64 0,.int .u64 0,.int .i64 0,.int .i64 0]) (cells':=fa++(fc++([Value.string ⟨#[]⟩,.int .u64 0,.int .u64 0,.int .i64 0,.int .i64 0]++rest))) rfl Tryz.underlying104 (by exact Tryz.zeroValue108) rfl up_ (by rw[show V.repL [Value.string ⟨#[]⟩,.int .u64 0,.int .u64 0,.int .i64 0,.int .i64 0] (0+1)=[Value.string ⟨#[]⟩,.int .u64 0,.int .u64 0,.int .i64 0,.int .i64 0] by simp[V.repL]];exact delLk_c_dc ha hx hc) (by simp[V.repL,ha,hx,hc];omega) rfl) ?_
  intro _ _
  refine pA_ 10 ?_
  intro w' hw;exact⟨(),trivial,rfl,hw⟩
theorem odP {Lz:List LvO}{i:Nat}{lp:List Lk}{yp:V.OwnO}(h:Lz[i]? =some (lp,yp))(a:V.Seg):([a,odM Lz]:V.Sg).flatten.Perm ([a,ownG 108 (lp.flatMap lkC) yp,odM (Lz.eraseIdx i)]:V.Sg).flatten:=by
 have h8:=odM_at h
 simp only[List.flatten_cons,List.flatten_nil,List.append_nil]
 exact List.Perm.append_left _ h8
theorem odP2 {Lz:List LvO}{i:Nat}{p:LvO}{lp:List Lk}{yp:V.OwnO}(h:Lz[i]? =some p)(a c:V.Seg)(hc:c=ownG 108 (lp.flatMap lkC) yp):([a,c,odM (Lz.eraseIdx i)]:V.Sg).flatten.Perm ([a,odM (Lz.set i (lp,yp))]:V.Sg).flatten:=by
 have h8:=odM_set (q:=(lp,yp)) h
 subst hc
 simp only[List.flatten_cons,List.flatten_nil,List.append_nil]
 exact List.Perm.append_left _ h8.symm
theorem set_same {α:Type}{l:List α}{i:Nat}{x:α}(h:l[i]? =some x):l.set i x=l:=by
 obtain⟨h1,h2⟩:=List.getElem?_eq_some_iff.1 h
 rw[← h2,List.set_getElem_self]
def dropL (l:List Lk)(key:List UInt8):List Lk:=if hasF l key=true then l.eraseIdx (posF l key) else l
def dropTo (D:List (List Lk))(key:List UInt8)(k:Nat):List (List Lk):=D.mapIdx fun i l=>if i<k then dropL l key else l
theorem dropTo_0 (D:List (List Lk))(key:List UInt8):dropTo D key 0=D:=by
 apply List.ext_getElem?
 intro j
 unfold dropTo
 rw[List.getElem?_mapIdx]
 cases D[j]? <;>simp
theorem dropTo_succ {D:List (List Lk)}{key:List UInt8}{k:Nat}{l:List Lk}(h:D[k]? =some l):(dropTo D key k).set k (dropL l key)=dropTo D key (k+1):=by
 apply List.ext_getElem?
 intro j
 unfold dropTo
 rw[List.getElem?_set,List.getElem?_mapIdx,List.getElem?_mapIdx]
 have hk:=(List.getElem?_eq_some_iff.1 h).1
 by_cases e:k=j
 ·subst e
  rw[if_pos rfl,if_pos (by simpa using hk),h]
  simp
 ·rw[if_neg e]
  congr 1
  funext l
  by_cases h1:j<k
  ·rw[if_pos h1,if_pos om_]
  ·rw[if_neg h1,if_neg om_]
theorem dropTo_at {D:List (List Lk)}{key:List UInt8}{k:Nat}{l:List Lk}(h:D[k]? =some l):(dropTo D key k)[k]? =some l:=by
 unfold dropTo
 rw[List.getElem?_mapIdx,h]
 simp
def odrop (D:List (List Lk))(key:List UInt8):List (List Lk):=dropTo D key (levF key)
def odropB (D:List (List Lk))(key:List UInt8)(k:Nat):Bool:=(D.take k).any fun l=>hasF l key
theorem odropB_succ {D:List (List Lk)}{key:List UInt8}{k:Nat}{l:List Lk}(h:D[k]? =some l):odropB D key (k+1)=(odropB D key k||hasF l key):=by
 unfold odropB
 rw[List.take_add_one,h,Option.toList_some,List.any_append]
 simp
theorem odrop_g (ob:Nat)(Lz:List LvO)(key:List UInt8)(hO:odOk Lz)(hx:key.length≤100000):Mo Tryz.prog 257 [.pointer (some ⟨ob,0,none⟩),str key] (odS ob Lz) (fun Lv2:List LvO=>(Lv2.map Prod.fst=odrop (Lz.map Prod.fst) key)∧Lv2.length=4∧∀p∈Lv2,lvOk p) (fun _=> .bool (odropB (Lz.map Prod.fst) key (levF key))) (fun Lv2=>odS ob Lv2):=by
 intro w hs
 have hlv:=levF_rng key
 have hO4:=hO.1
 refine Ca_ Tryz.func257 rfl Tryz.ntmps257 hs<|pA_ 24 ?_
 refine Le (Cz_ (level_c key hx)) fun _ _=>pA_ 4 ?_
 refine loopA (γ:=Nat×List LvO) (fun k=>[(0,.pointer (some ⟨ob,0,none⟩)),(1,str key),(5,.bool (odropB (Lz.map Prod.fst) key k.1)),(12,.int .i64 (levF key:Nat)),(13,.int .i64 (k.1:Nat))]) (fun k=>[[(ob,.cells (odC k.2).toArray 203 (0,0))],odM k.2]) (fun k=>k.1≤levF key∧k.2.map Prod.fst=dropTo (Lz.map Prod.fst) key k.1∧k.2.length=4∧(∀p∈k.2,lvOk p)) (fun k=>levF key-k.1) ((0,Lz)) ⟨Nat.zero_le _,by rw[dropTo_0],hO.1,fun p hp=>(hO.2 p hp).1⟩ fun k=>?_
 rintro⟨hk1,hk2,hk3,hk4⟩
 refine pA_ 6 ?_
 refine Cd_ rfl (fun h14=>?_) fun h14=>?_
 ·refine pA_ 11 ?_
  obtain⟨p,hp⟩:∃p,k.2[k.1]? =some p:=⟨k.2[k.1]'om_,by simp⟩
  obtain⟨lp,yp⟩:=p
  have hpk:ownOk 5 lp.length (lp.flatMap lkC) yp:=hk4 _ (List.mem_of_getElem? hp)
  have hD:(Lz.map Prod.fst)[k.1]? =some lp:=by
   obtain⟨l,hl⟩:∃l,(Lz.map Prod.fst)[k.1]? =some l:=⟨(Lz.map Prod.fst)[k.1]'(by rw[List.length_map,hO.1];omega),List.getElem?_eq_getElem _⟩
   have h8:=dropTo_at (key:=key) hl
   rw[← hk2,List.getElem?_map,hp] at h8
   rw[hl,← h8];rfl
  have hlp:lp.length≤900:=by
   have h9:=hD
   rw[List.getElem?_map,Option.map_eq_some_iff] at h9
   obtain⟨q,hq,rfl⟩:=h9
   exact(hO.2 q (List.mem_of_getElem? hq)).2
  have hst:=dropTo_succ (key:=key) hD
  have hob:=odropB_succ (key:=key) hD
  obtain⟨ps,cs,hvs,_,hss⟩:=own_slg (e:=108) lkC_len lp yp hpk
  refine V.CW.perm (sg':=[[(ob,.cells (odC k.2).toArray 203 (0,0))],ownG 108 (lp.flatMap lkC) yp,odM (k.2.eraseIdx k.1)]) ?_ (odP hp _)
  refine pA_ 5 ?_
  refine Lv (Val.indexAddrA (i:=k.1) rfl rfl Tryz.underlying201 Tryz.sizeOf104 om_)<|Lv (Ld (v:=ownV lp.length yp) (hl:=odC_at hp))<|LW.re 22 (.slice ps lp.length cs) rfl hvs<|Lv Mv<|Le (CV fun w hw=>find_o lp ps cs key om_ w (hss hw pk_)) fun _ _=>pA_ 12 ?_
  refine Cd_ rfl (fun h27=>?_) fun h27=>?_
  ·have hpl:posF lp key<lp.length:=by unfold hasF at h27;rw[Bool.and_eq_true,decide_eq_true_eq] at h27;exact h27.1
   obtain⟨g,rest,cap,rfl⟩:∃g r c,yp=some (g,r,c):=by
    rcases yp with _|⟨g,r,c⟩
    ·exact absurd hpk.2 om_
    ·exact⟨g,r,c,rfl⟩
   obtain⟨x,hx9⟩:∃x,lp[posF lp key]? =some x:=⟨lp[posF lp key]'hpl,by simp⟩
   have hsp:=split_at hx9
   obtain⟨a,ha⟩:∃a,a=posF lp key:=⟨_,rfl⟩
   have hdl:dropL lp key=lp.take a++lp.drop (a+1):=by unfold dropL;rw[if_pos h27,← ha];exact List.eraseIdx_eq_take_drop_succ ..
   rw[← ha] at hpl hsp
   obtain⟨A,hA⟩:∃A,A=lp.take a:=⟨_,rfl⟩
   obtain⟨Cc,hC⟩:∃C,C=lp.drop (a+1):=⟨_,rfl⟩
   rw[← hA,← hC] at hsp hdl
   have hAl:A.length=a:=by rw[hA,List.length_take];omega
   have hll:lp.length=a+1+Cc.length:=by rw[hsp];simp[hAl];omega
   have hcap:lp.length*5+rest.length=cap*5:=by have h8:=hpk.2;simp only[V.flatMap_len lkC_len] at h8;exact h8
   have hcells:lp.flatMap lkC++rest=A.flatMap lkC++(lkC x++(Cc.flatMap lkC++rest)):=by rw[hsp];simp
   have hok2:lvOk (dropL lp key,some (g,[Value.string ⟨#[]⟩,.int .u64 0,.int .u64 0,.int .i64 0,.int .i64 0]++rest,cap)):=by
    rw[hdl]
    refine⟨V.flatMap_len lkC_len _,?_⟩
    show((A++Cc).flatMap lkC).length+([Value.string ⟨#[]⟩,.int .u64 0,.int .u64 0,.int .i64 0,.int .i64 0]++rest).length=cap*5
    rw[V.flatMap_len lkC_len]
    simp only[List.length_append,List.length_cons,List.length_nil,hAl]
    omega
   have hlen2:(dropL lp key).length=a+Cc.length:=by rw[hdl];simp[hAl]
   have hseg:([(g,.cells (A.flatMap lkC++(Cc.flatMap lkC++([Value.string ⟨#[]⟩,.int .u64 0,.int .u64 0,.int .i64 0,.int .i64 0]++rest))).toArray 108 (0,0))]:V.Seg)=ownG 108 ((dropL lp key).flatMap lkC) (some (g,[Value.string ⟨#[]⟩,.int .u64 0,.int .u64 0,.int .i64 0,.int .i64 0]++rest,cap)):=by rw[hdl,V.ownG_some,List.flatMap_append,List.append_assoc]
   refine Sq<|Dr ([])<|pR_ [0,1,2,3,4,5] ?_
   refine Rv 6 rfl (Val.indexAddrA (i:=k.1) rfl rfl Tryz.underlying201 Tryz.sizeOf104 om_)<|Rv 8 rfl Mv<|RW.re 36 (.int .i64 (a:Nat)) rfl (by rw[ha])<|Rv 9 rfl Mv<|RW.re 37 (.int .i64 (a:Nat)) rfl (by rw[ha])<|Rv 10 rfl Ar<|RW.re 38 (.int .i64 ((a+1:Nat):Int)) rfl (by simp)<|pR_ [12,13] ?_
   refine Re 7 rfl (Eff.ofVal (Ld (v:=ownV lp.length (some (g,rest,cap))) (hl:=odC_at hp))) fun _ _=>RW.re 35 (.slice (some ⟨g,0,none⟩) (a+1+Cc.length) cap) rfl (by rw[← hll];rfl)<|Re 11 rfl (Eff.callM ([[(g,.cells (A.flatMap lkC++(lkC x++(Cc.flatMap lkC++rest))).toArray 108 (0,0))]]) (by rw[← hcells];repeat(first|exact .nil|apply Pick.cons|exact .here|apply Ext.there)) rfl Tryz.call272 (fun w hw hs0=>delLk_c g cap a Cc.length (A.flatMap lkC) (lkC x) (Cc.flatMap lkC) rest (by rw[V.flatMap_len lkC_len,hAl]) rfl (V.flatMap_len lkC_len Cc) (lk_one1 Cc) om_ om_ w hs0)) fun _ _=>Rv 14 rfl (Val.indexAddrA (i:=k.1) rfl rfl Tryz.underlying201 Tryz.sizeOf104 om_)<|ReN 15 rfl (Eff.storeX (v:= .slice (some ⟨g,0,none⟩) (a+Cc.length) cap) (l:=odC k.2) (l':=odC (k.2.set k.1 (dropL lp key,some (g,[Value.string ⟨#[]⟩,.int .u64 0,.int .u64 0,.int .i64 0,.int .i64 0]++rest,cap)))) rfl rfl rfl up_ (by have h8:=odC_set (Lz:=k.2) (i:=k.1) (dropL lp key,some (g,[Value.string ⟨#[]⟩,.int .u64 0,.int .u64 0,.int .i64 0,.int .i64 0]++rest,cap));simp only[hlen2] at h8;exact h8) (by unfold odC;rw[List.length_map];omega) Tryz.sizeOf104) fun _ _=>pA_ 11 ?_
   refine V.PQ.segs (ss:=[[(ob,.cells (odC (k.2.set k.1 (dropL lp key,some (g,[Value.string ⟨#[]⟩,.int .u64 0,.int .u64 0,.int .i64 0,.int .i64 0]++rest,cap)))).toArray 203 (0,0))],[(g,.cells (A.flatMap lkC++(Cc.flatMap lkC++([Value.string ⟨#[]⟩,.int .u64 0,.int .u64 0,.int .i64 0,.int .i64 0]++rest))).toArray 108 (0,0))],odM (k.2.eraseIdx k.1)]) ?_ pk_
   refine V.PQ.perm (sg':=[[(ob,.cells (odC (k.2.set k.1 (dropL lp key,some (g,[Value.string ⟨#[]⟩,.int .u64 0,.int .u64 0,.int .i64 0,.int .i64 0]++rest,cap)))).toArray 203 (0,0))],odM (k.2.set k.1 (dropL lp key,some (g,[Value.string ⟨#[]⟩,.int .u64 0,.int .u64 0,.int .i64 0,.int .i64 0]++rest,cap)))]) ?_ (odP2 hp _ _ hseg)
   refine PQ.round ((k.1+1,k.2.set k.1 (dropL lp key,some (g,[Value.string ⟨#[]⟩,.int .u64 0,.int .u64 0,.int .i64 0,.int .i64 0]++rest,cap)))) ⟨by simp only;omega,by simp only;rw[List.map_set,hk2];exact hst,by simp only[List.length_set];exact hk3,fun q hq=>by
    rcases List.mem_or_eq_of_mem_set hq with hq|rfl
    ·exact hk4 q hq
    ·exact hok2⟩ (by simp only;omega) (by exact⟨rfl,rfl,congrArg (fun z=>some (Value.bool z)) (by simp only;rw[hob,h27,Bool.or_true]),rfl,rfl,trivial⟩) pk_
  ·have hdl:dropL lp key=lp:=by unfold dropL;rw[if_neg (by simp[h27])]
   refine pA_ 7 ?_
   refine V.PQ.perm (sg':=[[(ob,.cells (odC k.2).toArray 203 (0,0))],odM k.2]) ?_ (odP hp _).symm
   refine PQ.round ((k.1+1,k.2)) ⟨by simp only;omega,by simp only;rw[hk2,← hst,hdl];exact(set_same (dropTo_at (key:=key) hD)).symm,hk3,hk4⟩ (by simp only;omega) (by exact⟨rfl,rfl,congrArg (fun z=>some (Value.bool z)) (by simp only;rw[hob,h27,Bool.or_false]),rfl,rfl,trivial⟩) pk_
 ·refine pA_ 13 ?_
  have hk9:k.1=levF key:=by omega
  have hfin:k.2.map Prod.fst=odrop (Lz.map Prod.fst) key:=by unfold odrop;rw[hk2,hk9]
  rw[← hk9]
  exact fi_ k.2 ⟨hfin,hk3,hk4⟩
end
section
attribute [local irreducible] V.CW V.LW V.QW V.RW V.PQ V.Val V.Eff V.Qcall
open V (str byC ownV ownG ownS ownOk)
theorem tget_g (tb:Nat)(ms:List Nat)(Tz:Tbl)(hT:tbOk ms Tz)(key:List UInt8)(hl:key.length≤100000):Rx Tryz.prog 248 [.pointer (some ⟨tb,0,none⟩),str key] (tbS tb ms Tz) (.tuple #[.agg (lkC ((tGet Tz key).getD lk0)).toArray,.bool (tGet Tz key).isSome]):=by
 intro w hs
 have hbk:=bkF_lt key
 obtain⟨m,hm⟩:∃m,ms[bkF key]? =some m:=⟨ms[bkF key]'(by rw[hT.1];omega),by simp⟩
 obtain⟨p,hp⟩:∃p,Tz[bkF key]? =some p:=⟨Tz[bkF key]'(by rw[hT.2];omega),by simp⟩
 have hg:tGet Tz key=lget p.1 key:=by unfold tGet;rw[hp];rfl
 refine Ca_ Tryz.func248 rfl Tryz.ntmps248 hs<|Sq<|Rg<|Le AA fun b4 _=>Lv Av<|Nl<|Ps<|Sq<|Rg<|Lv Mv<|Lv Mv<|Le (Cr_ (of_c3 tb ms Tz hT key hl m hm)) fun _ _=>Lv Mv<|Lv (Val.lookup rfl rfl Tryz.underlying167 Tryz.underlying9 Tryz.zeroValue108 (by repeat(first|exact InS.nth (tbM_at hm hp)|refine .there ?_)))<|LW.re 13 (.tuple [lkW ((tGet Tz key).getD lk0),.bool (tGet Tz key).isSome].toArray) rfl (by rw[hg];show Value.tuple [(mget (me p.1) (byK key)).getD _,.bool (mget (me p.1) (byK key)).isSome].toArray=_;rw[mget_me];cases lget p.1 key<;>rfl)<|Lv Mv<|Lv Ex<|Lv Ex<|Le AA fun b6 _=>LeN (StW (cs:=lkC ((tGet Tz key).getD lk0))) fun _ _=>Lv Av<|Nl<|Ps<|Sq<|Rg<|Lv (Lw (l:=lkC ((tGet Tz key).getD lk0)))<|Lv Mv<|LeN (StW (cs:=lkC ((tGet Tz key).getD lk0))) fun _ _=>Lv Av<|Nl<|Ps<|Rt<|PQ.retCT rfl rfl rfl in_ Tryz.isAgg108 (by exact Tryz.sizeOf108) ?_
 exact fr_ hs
def ldrop:LE→List UInt8→LE
 |[],_=>[]
 |e::r,k=>if e.2.key=k then r else e::ldrop r k
def tDrop (Tz:Tbl)(k:List UInt8):Tbl:=match Tz[bkF k]? with
 |none=>Tz
 |some p=>Tz.set (bkF k) (ldrop p.1 k,p.2)
theorem mdel_me (k:List UInt8):∀E:LE,mdel (me E) (byK k)=me (ldrop E k)
 |[]=>rfl
 |e::r=>by
  have h8:=mdel_me k r
  show(if byK e.2.key=byK k then me r else(e.1,byK e.2.key,lkW e.2)::mdel (me r) (byK k))=me (if e.2.key=k then r else e::ldrop r k)
  by_cases h:e.2.key=k
  ·rw[if_pos (by rw[h]),if_pos h]
  ·rw[if_neg (fun h9=>h (byK_inj.1 h9)),if_neg h,h8];rfl
theorem tDrop_len (Tz:Tbl)(k:List UInt8):(tDrop Tz k).length=Tz.length:=by
 unfold tDrop
 split
 ·rfl
 ·rw[List.length_set]
theorem tdrop_g (tb:Nat)(ms:List Nat)(Tz:Tbl)(hT:tbOk ms Tz)(key:List UInt8)(hl:key.length≤100000):Mo Tryz.prog 256 [.pointer (some ⟨tb,0,none⟩),str key] (tbS tb ms Tz) (fun _u:Unit=>True) (fun _=> .tuple #[.agg (lkC ((tGet Tz key).getD lk0)).toArray,.bool (tGet Tz key).isSome]) (fun _=>tbS tb ms (tDrop Tz key)):=by
 intro w hs
 have hbk:=bkF_lt key
 obtain⟨m,hm⟩:∃m,ms[bkF key]? =some m:=⟨ms[bkF key]'(by rw[hT.1];omega),by simp⟩
 obtain⟨p,hp⟩:∃p,Tz[bkF key]? =some p:=⟨Tz[bkF key]'(by rw[hT.2];omega),by simp⟩
 have hg:tGet Tz key=lget p.1 key:=by unfold tGet;rw[hp];rfl
 refine Ca_ Tryz.func256 rfl Tryz.ntmps256 hs<|Sq<|Rg<|Le AA fun b4 _=>Lv Av<|Nl<|Ps<|Sq<|Rg<|Lv Mv<|Lv Mv<|Le (Cr_ (of_c3 tb ms Tz hT key hl m hm)) fun _ _=>Lv Av<|Nl<|Ps<|Sq<|Rg<|Lv Mv<|Lv Mv<|Lv (Val.lookup rfl rfl Tryz.underlying167 Tryz.underlying9 Tryz.zeroValue108 (by repeat(first|exact InS.nth (tbM_at hm hp)|refine .there ?_)))<|LW.re 15 (.tuple [lkW ((tGet Tz key).getD lk0),.bool (tGet Tz key).isSome].toArray) rfl (by rw[hg];show Value.tuple [(mget (me p.1) (byK key)).getD _,.bool (mget (me p.1) (byK key)).isSome].toArray=_;rw[mget_me];cases lget p.1 key<;>rfl)<|Lv Mv<|Lv Ex<|Lv Ex<|Le AA fun b7 _=>LeN (StW (cs:=lkC ((tGet Tz key).getD lk0))) fun _ _=>Lv Av<|Nl<|Ps<|Sq<|Rg<|Lv Mv<|Lv Mv<|LeN (Eff.delete rfl rfl Tryz.underlying167 Tryz.underlying9 (by repeat(first|exact Upd.nth (tbM_at hm hp)|apply Upd.there))) fun _ _=>Nl<|Ps<|Sq<|Rg<|Lv (Lw (l:=lkC ((tGet Tz key).getD lk0)))<|Lv Mv<|LeN (StW (cs:=lkC ((tGet Tz key).getD lk0))) fun _ _=>Lv Av<|Nl<|Ps<|Rt<|PQ.retCT rfl rfl rfl in_ Tryz.isAgg108 (by exact Tryz.sizeOf108) ?_
 have e8:(tbM ms Tz).set (bkF key) (m,mpO (mdel (me p.1) (byK key)) p.2)=tbM ms (tDrop Tz key):=by
  rw[mdel_me]
  unfold tDrop
  rw[hp]
  exact tbM_set (ldrop p.1 key,p.2) hm
 intro w' hw
 refine⟨(),trivial,rfl,?_⟩
 have h9:=hw.pick (ss:=[[(tb,.cells (tbC ms).toArray 170 (0,0))],(tbM ms Tz).set (bkF key) (m,mpO (mdel (me p.1) (byK key)) p.2)]) pk_
 rw[e8] at h9
 exact h9
theorem tSet_ok {ms:List Nat}{Tz:Tbl}(h:tbOk ms Tz)(x:Lk):tbOk ms (tSet Tz x):=⟨h.1,by rw[tSet_len];exact h.2⟩
theorem tDrop_ok {ms:List Nat}{Tz:Tbl}(h:tbOk ms Tz)(k:List UInt8):tbOk ms (tDrop Tz k):=⟨h.1,by rw[tDrop_len];exact h.2⟩
end
section
attribute [local irreducible] V.CW V.LW V.QW V.RW V.PQ V.Val V.Eff V.Qcall
open V (str byC ownV ownG ownS ownOk)
instance:Und Tryz.prog 285 (dOf Tryz.underlying285):=⟨Tryz.underlying285⟩
instance:Siz Tryz.prog 285 (kOf Tryz.sizeOf285):=⟨Tryz.sizeOf285⟩
instance:AgT Tryz.prog 285:=⟨Tryz.isAgg285⟩
instance:Zer Tryz.prog 285 (zOf Tryz.zeroValue285):=⟨Tryz.zeroValue285⟩
instance:Und Tryz.prog 286 (dOf Tryz.underlying286):=⟨Tryz.underlying286⟩
instance:Cal Tryz.prog 247:=⟨Tryz.call247⟩
theorem areaders_g (x:ArR)(s:ArS)(w:World)(ha:w.heap[x.a]? =some (.cells (arC x s).toArray 77 (0,0))):Calls Tryz.prog 206 [.pointer (some ⟨x.a,0,none⟩)].toArray w fun e w'=>e= .returned (.pointer (some ⟨x.rb,0,none⟩))∧Below w.heap.size w w':=by
 refine Cb_ Tryz.func206 rfl Tryz.ntmps206<|pA_ 20 ?_
 refine Lv (Val.loadO rfl Tryz.isAgg65 (V.lt_of_some ha) (by simp[ids]) (V.cell_of_block ha rfl))<|pA_ 5 ?_
 exact fb_
theorem aclock_g (x:ArR)(s:ArS)(w:World)(ha:w.heap[x.a]? =some (.cells (arC x s).toArray 77 (0,0))):Calls Tryz.prog 7 [.pointer (some ⟨x.a,0,none⟩)].toArray w fun e w'=>e= .returned (.pointer (some ⟨x.cb,0,none⟩))∧Below w.heap.size w w':=by
 refine Cb_ Tryz.func7 rfl Tryz.ntmps7<|pA_ 20 ?_
 refine Lv (Val.loadO rfl Tryz.isAgg30 (V.lt_of_some ha) (by simp[ids]) (V.cell_of_block ha rfl))<|pA_ 5 ?_
 exact fb_
theorem anumbers_g (x:ArR)(s:ArS):Rx Tryz.prog 252 [.pointer (some ⟨x.a,0,none⟩)] [[(x.a,.cells (arC x s).toArray 77 (0,0))]] (.tuple #[.int .u64 s.id,.int .u64 s.ver]):=by
 intro w hs
 refine Ca_ Tryz.func252 rfl Tryz.ntmps252 hs<|pA_ 17 ?_
 refine Qt<|pA_ 3 ?_
 refine Qc (QV fun w hw=>uLd_c x.a 8 (arC x s) 77 s.id w rfl (hw.sat.pick (ss:=[[(x.a,.cells (arC x s).toArray 77 (0,0))]]) pk_))<|pA_ 3 ?_
 refine Qc (QV fun w hw=>uLd_c x.a 9 (arC x s) 77 s.ver w rfl (hw.sat.pick (ss:=[[(x.a,.cells (arC x s).toArray 77 (0,0))]]) pk_))<|pA_ 6 ?_
 exact fr_ hs
structure Chg where
 kind:Int
 key:List UInt8
 val:List UInt8
 had:Bool
 old:Lk
 line:Int
 cls:Int
def chC (x:Chg):List Value:= .int .i64 x.kind::str x.key::str x.val:: .bool x.had::(lkC x.old++[.int .i64 x.line,.int .i64 x.cls])
theorem chC_len (x:Chg):(chC x).length=11:=rfl
def chV (x:Chg):Value:= .agg (chC x).toArray
def mapB (x:Chg):Bool:=decide (x.kind=2)||decide (x.kind=3)
def needB (x:Chg):Bool:= !decide (x.kind=3)||x.had
def allPre {α:Type}(f:List α→α→Bool):List α→List α→Bool
 |_,[]=>true
 |p,x::r=>f p x&&allPre f (p++[x]) r
theorem allPre_step {α:Type}{f:List α→α→Bool}{l:List α}{k:Nat}{x:α}(h:l[k]? =some x):allPre f (l.take k) (l.drop k)=(f (l.take k) x&&allPre f (l.take (k+1)) (l.drop (k+1))):=by
 obtain⟨h1,h2⟩:=List.getElem?_eq_some_iff.1 h
 rw[List.drop_eq_getElem_cons h1,h2,allPre,List.take_succ_eq_append_getElem h1,h2]
def clash (x y:Chg):Bool:=(mapB x&&mapB y&&decide (x.key=y.key))||(decide (x.kind=5)&&decide (y.kind=5))
def kdOk (x:Chg):Bool:=decide (x.kind=2)||decide (x.kind=3)||decide (x.kind=4)||(decide (x.kind=5)&&x.had)
def shOne (p:List Chg)(x:Chg):Bool:=kdOk x&& !p.any (clash x)
def shapeB (l:List Chg):Bool:=decide (1≤l.length∧l.length≤3)&&allPre shOne [] l
theorem any_take {α:Type}{g:α→Bool}{l:List α}{i:Nat}{y:α}(h:l[i]? =some y):(l.take (i+1)).any g=((l.take i).any g||g y):=by
 rw[List.take_add_one,h,Option.toList_some,List.any_append]
 simp
theorem mapped_c (x:Chg):Rz Tryz.prog 247 [chV x] (.bool (mapB x)):=by
 intro w
 refine Cb_ Tryz.func247 rfl Tryz.ntmps247<|Sq<|Rg<|Le XA fun b1 _=>pA_ 6 ?_
 refine Lv Ld<|Lv Cm<|Lv Mv ?_
 refine LW.split (d:=6) rfl (fun h6=>?_) (fun h6=>?_)
 ·replace h6:=bT h6
  refine pA_ 9 ?_
  intro w' hw;exact⟨by congr 2;rw[Bool.eq_iff_iff];simp[mapB,h6],hw.below⟩
 ·replace h6:=bF h6
  refine Lv (Fa 0 3)<|Lv Ld<|pA_ 7 ?_
  intro w' hw;exact⟨by congr 2;rw[Bool.eq_iff_iff];simp[mapB,h6],hw.below⟩
theorem needs_c (x:Chg):Rz Tryz.prog 220 [chV x] (.bool (needB x)):=by
 intro w
 refine Cb_ Tryz.func220 rfl Tryz.ntmps220<|Sq<|Rg<|Le XA fun b1 _=>pA_ 6 ?_
 refine Lv Ld<|Lv Cm<|Lv Mv ?_
 refine LW.split (d:=6) rfl (fun h6=>?_) (fun h6=>?_)
 ·replace h6:=bT h6
  refine pA_ 8 ?_
  intro w' hw;exact⟨by congr 2;rw[Bool.eq_iff_iff];simp[needB,h6],hw.below⟩
 ·replace h6:=bF h6
  refine Lv (Fa 3 4)<|Lv Ld<|pA_ 6 ?_
  intro w' hw;exact⟨by congr 2;rw[Bool.eq_iff_iff];simp[needB,h6],hw.below⟩
theorem any_false2 {α:Type}{g:α→Bool}{l:List α}{i:Nat}{y:α}(h:l[i]? =some y)(hg:g y=true):l.any g=true:=List.any_eq_true.2 ⟨y,List.mem_of_getElem? h,hg⟩
theorem shaped_c (l:List Chg)(p:Option Addr)(c:Nat)(hl:l.length≤c∧l.length≤1000)(w:World)(h:V.slAt w p 11 chC l):Calls Tryz.prog 216 [.slice p l.length c].toArray w fun e w'=>e= .returned (.bool (shapeB l))∧Below w.heap.size w w':=by
 refine Cb_ Tryz.func216 rfl Tryz.ntmps216<|pA_ 12 ?_
 refine LW.split (d:=10) rfl (fun h10=>?_) (fun h10=>?_)
 ·replace h10:=bT h10
  refine pA_ 15 ?_
  have e1:shapeB l=false:=by unfold shapeB;rw[decide_eq_false om_];rfl
  rw[e1]
  exact fb_
 ·replace h10:=bF h10
  refine pA_ 6 ?_
  refine Cd_ rfl (fun h14=>?_) fun h14=>?_
  ·refine pA_ 8 ?_
   have e1:shapeB l=false:=by unfold shapeB;rw[decide_eq_false om_];rfl
   rw[e1]
   exact fb_
  ·refine pA_ 11 ?_
   refine loopA (γ:=Nat) (fun k=>[(0,.slice p l.length c),(15,.slice p l.length c),(16,.int .i64 (l.length:Nat)),(17,.int .i64 (k:Nat))]) (fun _=>[]) (fun k=>k≤l.length∧allPre shOne [] l=allPre shOne (l.take k) (l.drop k)) (fun k=>l.length-k) (0) ⟨Nat.zero_le _,rfl⟩ fun k=>?_
   rintro⟨hk1,hk2⟩
   refine pA_ 6 ?_
   refine Cd_ rfl (fun h18=>?_) fun h18=>?_
   ·obtain⟨b1,o1,x,rfl,hb1,hx1,hr1⟩:=V.slAt_at h rfl (k:=k) om_
    have hst:=allPre_step (f:=shOne) hx1
    refine pA_ 7 ?_
    refine Lv (Val.indexAddrN (i:=k) rfl rfl Tryz.underlying286 Tryz.sizeOf285 om_)<|Lv (Val.loadOA (cs:=chC x) rfl Tryz.isAgg285 hb1 (by simp[ids]) (hr1 (k) _ hx1) Tryz.sizeOf285)<|Le AA fun b4 _=>Lv Av<|LeN (StW (cs:=chC x)) fun _ _=>pA_ 3 ?_
    refine CW.join (fun _:Unit=>kdOk x=true) (fun _=>[(0,.slice (some ⟨b1,o1,none⟩) l.length c),(3,.int .i64 (k:Nat)),(4,.pointer (some ⟨b4,0,none⟩)),(15,.slice (some ⟨b1,o1,none⟩) l.length c),(16,.int .i64 (l.length:Nat)),(17,.int .i64 (k:Nat))]) (fun _=>[[(b4,.cells (chC x).toArray 285 (0,0))]]) ?_ ?_
    ·refine pA_ 3 ?_
     refine Lv Ld<|pA_ 10 ?_
     refine Cd_ rfl (fun h24=>?_) fun h24=>?_
     ·refine Sk<|Ps<|CW.cond_t (congrArg (fun b=>some (Value.bool b)) (show _=true by simpa using h24))<|Sk<|Bn ?_
      exact joinC (()) (by unfold kdOk;simp_all)
     ·refine pA_ 6 ?_
      refine Cd_ rfl (fun h24=>?_) fun h24=>?_
      ·refine Sk<|Ps<|CW.cond_t (congrArg (fun b=>some (Value.bool b)) (show _=true by simpa using h24))<|Sk<|Bn ?_
       exact joinC (()) (by unfold kdOk;simp_all)
      ·refine pA_ 5 ?_
       refine Cd_ rfl (fun h24=>?_) fun h24=>?_
       ·refine Sk<|Bn ?_
        exact joinC (()) (by unfold kdOk;simp_all)
       ·refine pA_ 6 ?_
        refine Cd_ rfl (fun h28=>?_) fun h28=>?_
        ·refine pA_ 3 ?_
         refine Lv Ld<|pA_ 3 ?_
         refine Cd_ rfl (fun h32=>?_) fun h32=>?_
         ·refine pA_ 14 ?_
          have e2:shOne (l.take k) x=false:=by unfold shOne kdOk;simp_all
          have e1:shapeB l=false:=by unfold shapeB;rw[hk2,hst,e2];simp
          rw[e1]
          exact fb_
         ·refine Sk<|Bn ?_
          exact joinC (()) (by unfold kdOk;simp_all)
        ·refine pA_ 14 ?_
         have e2:shOne (l.take k) x=false:=by unfold shOne kdOk;simp_all
         have e1:shapeB l=false:=by unfold shapeB;rw[hk2,hst,e2];simp
         rw[e1]
         exact fb_
    ·intro _ hkd
     refine pA_ 5 ?_
     refine Lv (Val.slice 0 k c rfl Tryz.underlying286 Tryz.sizeOf285 rfl ⟨_,rfl⟩ rfl (fun h=>by cases h) om_ om_ om_)<|LW.re 35 (.slice (some ⟨b1,o1,none⟩) k c) rfl (by simp)<|pA_ 5 ?_
     refine loopA (γ:=Nat) (fun i=>[(0,.slice (some ⟨b1,o1,none⟩) l.length c),(3,.int .i64 (k:Nat)),(4,.pointer (some ⟨b4,0,none⟩)),(15,.slice (some ⟨b1,o1,none⟩) l.length c),(16,.int .i64 (l.length:Nat)),(17,.int .i64 (k:Nat)),(35,.slice (some ⟨b1,o1,none⟩) k c),(36,.int .i64 (k:Nat)),(37,.int .i64 (i:Nat))]) (fun i=>[[(b4,.cells (chC x).toArray 285 (0,0))]]) (fun i=>i≤k∧(l.take i).any (clash x)=false) (fun i=>k-i) (0) ⟨Nat.zero_le _,rfl⟩ fun i=>?_
     rintro⟨hi1,hi2⟩
     refine pA_ 6 ?_
     refine Cd_ rfl (fun h38=>?_) fun h38=>?_
     ·obtain⟨y,hy⟩:∃y,l[i]? =some y:=⟨l[i]'om_,by simp⟩
      refine pA_ 6 ?_
      refine Lv (Val.indexAddrN (i:=i) rfl rfl Tryz.underlying286 Tryz.sizeOf285 om_)<|Lv (Val.loadOA (cs:=chC y) rfl Tryz.isAgg285 hb1 (by simp[ids]) (hr1 (i) _ hy) Tryz.sizeOf285)<|Le AA fun b6 _=>LeN (StW (cs:=chC y)) fun _ _=>pA_ 4 ?_
      refine Lv (Lw (l:=chC x))<|Le (Cz_ (mapped_c x)) fun _ _=>Lv Mv ?_
      refine LW.split (d:=43) rfl (fun h43=>?_) (fun h43=>?_)
      ·replace h43:=bT h43
       refine Lv (Lw (l:=chC y))<|Le (Cz_ (mapped_c y)) fun _ _=>Lv Pt<|Lv Mv ?_
       refine LW.split (d:=47) rfl (fun h47=>?_) (fun h47=>?_)
       ·replace h47:=bT h47
        refine Lv (Fa 1 9)<|Lv Ld<|Lv (Fa 1 9)<|Lv Ld<|pA_ 3 ?_
        refine LW.split (d:=54) rfl (fun h54=>?_) (fun h54=>?_)
        ·replace h54:=bT h54
         refine pA_ 28 ?_
         have e2:shOne (l.take k) x=false:=by unfold shOne;rw[any_false2 (i:=i) (y:=y) (by rw[List.getElem?_take_of_lt om_];exact hy) (by unfold clash;simp_all)];simp
         have e1:shapeB l=false:=by unfold shapeB;rw[hk2,hst,e2];simp
         rw[e1]
         exact fb_
        ·replace h54:=bF h54
         refine Lv (Fa 0 3)<|Lv Ld<|Lv Cm<|Lv Mv ?_
         refine LW.split (d:=58) rfl (fun h58=>?_) (fun h58=>?_)
         ·replace h58:=bT h58
          refine Lv (Fa 0 3)<|Lv Ld<|pA_ 5 ?_
          refine Cd_ rfl (fun h63=>?_) fun h63=>?_
          ·refine pA_ 16 ?_
           have e2:shOne (l.take k) x=false:=by unfold shOne;rw[any_false2 (i:=i) (y:=y) (by rw[List.getElem?_take_of_lt om_];exact hy) (by unfold clash;simp_all)];simp
           have e1:shapeB l=false:=by unfold shapeB;rw[hk2,hst,e2];simp
           rw[e1]
           exact fb_
          ·refine pA_ 7 ?_
           exact roundA (i+1) ⟨by omega,by rw[any_take hy,hi2,Bool.false_or];unfold clash;simp_all⟩ om_
         ·replace h58:=bF h58
          refine pA_ 15 ?_
          exact roundA (i+1) ⟨by omega,by rw[any_take hy,hi2,Bool.false_or];unfold clash;simp_all⟩ om_
       ·replace h47:=bF h47
        refine pA_ 8 ?_
        refine Lv Ld<|Lv Cm<|Lv Mv ?_
        refine LW.split (d:=58) rfl (fun h58=>?_) (fun h58=>?_)
        ·replace h58:=bT h58
         refine Lv (Fa 0 3)<|Lv Ld<|pA_ 5 ?_
         refine Cd_ rfl (fun h63=>?_) fun h63=>?_
         ·refine pA_ 16 ?_
          have e2:shOne (l.take k) x=false:=by unfold shOne;rw[any_false2 (i:=i) (y:=y) (by rw[List.getElem?_take_of_lt om_];exact hy) (by unfold clash;simp_all)];simp
          have e1:shapeB l=false:=by unfold shapeB;rw[hk2,hst,e2];simp
          rw[e1]
          exact fb_
         ·refine pA_ 7 ?_
          exact roundA (i+1) ⟨by omega,by rw[any_take hy,hi2,Bool.false_or];unfold clash;simp_all⟩ om_
        ·replace h58:=bF h58
         refine pA_ 15 ?_
         exact roundA (i+1) ⟨by omega,by rw[any_take hy,hi2,Bool.false_or];unfold clash;simp_all⟩ om_
      ·replace h43:=bF h43
       refine pA_ 12 ?_
       refine Lv Ld<|Lv Cm<|Lv Mv ?_
       refine LW.split (d:=58) rfl (fun h58=>?_) (fun h58=>?_)
       ·replace h58:=bT h58
        refine Lv (Fa 0 3)<|Lv Ld<|pA_ 5 ?_
        refine Cd_ rfl (fun h63=>?_) fun h63=>?_
        ·refine pA_ 16 ?_
         have e2:shOne (l.take k) x=false:=by unfold shOne;rw[any_false2 (i:=i) (y:=y) (by rw[List.getElem?_take_of_lt om_];exact hy) (by unfold clash;simp_all)];simp
         have e1:shapeB l=false:=by unfold shapeB;rw[hk2,hst,e2];simp
         rw[e1]
         exact fb_
        ·refine pA_ 7 ?_
         exact roundA (i+1) ⟨by omega,by rw[any_take hy,hi2,Bool.false_or];unfold clash;simp_all⟩ om_
       ·replace h58:=bF h58
        refine pA_ 15 ?_
        exact roundA (i+1) ⟨by omega,by rw[any_take hy,hi2,Bool.false_or];unfold clash;simp_all⟩ om_
     ·refine pA_ 10 ?_
      refine PQ.round (k+1) ⟨by omega,by
       obtain rfl:i=k:=by omega
       have e2:shOne (l.take i) x=true:=by unfold shOne;rw[hkd,hi2];rfl
       rw[hk2,hst,e2,Bool.true_and]⟩ om_ (by repeat(first|exact trivial|refine⟨rfl,?_⟩)) pk_
   ·refine pA_ 12 ?_
    have e1:shapeB l=true:=by unfold shapeB;rw[decide_eq_true om_,hk2,List.drop_of_length_le om_];rfl
    rw[e1]
    exact fb_
end
section
attribute [local irreducible] V.CW V.LW V.QW V.RW V.PQ V.Val V.Eff V.Qcall
open V (str byC ownV ownG ownS ownOk)
instance:Cal Tryz.prog 248:=⟨Tryz.call248⟩
instance:Cal Tryz.prog 249:=⟨Tryz.call249⟩
instance:Cal Tryz.prog 270:=⟨Tryz.call270⟩
def fndQ (q:List Lk)(y:Chg):Bool:=q.head?.isSome&&decide (q.head?.getD lk0=y.old)
def fndB (Tz:Tbl)(q:List Lk)(y:Chg):Bool:=if mapB y=true then((tGet Tz y.key).isSome==y.had&&(!(tGet Tz y.key).isSome||decide ((tGet Tz y.key).getD lk0=y.old))) else if y.kind=5 then fndQ q y else true
theorem lkEq (a b:Lk):(decide ((⟨a.key.toArray⟩:ByteArray)=⟨b.key.toArray⟩)&&(a.id==b.id&&(a.ver==b.ver&&(a.line==b.line&&(a.cls==b.cls&&true)))))=decide (a=b):=by
 obtain⟨k,i,v,l,c⟩:=a
 obtain⟨k',i',v',l',c'⟩:=b
 rw[Bool.eq_iff_iff]
 simp only[Bool.and_eq_true,decide_eq_true_eq,beq_iff_eq,Lk.mk.injEq,and_true]
 constructor
 ·rintro⟨h1,h2,h3,h4,h5⟩
  refine⟨?_,h2,h3,h4,h5⟩
  injection h1 with h1
  simpa using congrArg Array.toList h1
 ·rintro⟨rfl,rfl,rfl,rfl,rfl⟩;exact⟨rfl,rfl,rfl,rfl,rfl⟩
theorem afound_g (x:ArR)(s:ArS)(db th n:Nat)(hA:ArOk th n x s)(y:Chg)(hy:y.key.length≤100000):Rx Tryz.prog 217 [.pointer (some ⟨x.a,0,none⟩),chV y] (arS x s db) (.bool (fndB s.Tz (rgQ s.rg) y)):=by
 intro w hs
 refine Ca_ Tryz.func217 rfl Tryz.ntmps217 hs<|Sq<|Rg<|Le XA fun b3 _=>pA_ 7 ?_
 refine Lv (Lw (l:=chC y))<|Le (Cz_ (mapped_c y)) fun _ _=>pA_ 3 ?_
 refine Cd_ rfl (fun h9=>?_) fun h9=>?_
 ·have h9:mapB y=true:=h9
  refine Sq<|Dr (([(b3,.cells (chC y).toArray 285 (0,0))]::arS x s db))<|pR_ [0,1,2] ?_
  refine Rv 3 rfl Ld<|Rv 4 rfl (Fa 1 9)<|Rv 5 rfl (Ld (v:=str y.key))<|RW.any [6,10] kr_ (by simp) fun i hi=>?_
  simp only[List.mem_cons,List.not_mem_nil,or_false] at hi
  rcases hi with rfl|rfl
  ·refine Ro rfl (Cr_ (tget_g x.tb x.ms s.Tz hA.tb y.key hy)) fun _ _=>pR_ [7,8,9] ?_
   refine Re 10 rfl AA fun b5 _=>ReN 11 rfl (StW (cs:=lkC ((tGet s.Tz y.key).getD lk0))) fun _ _=>Rv 12 rfl Av<|pA_ 6 ?_
   refine Lv (Ld (v:= .bool y.had))<|Lv (Val.eqB rfl rfl Tryz.underlying4)<|Lv Mv ?_
   refine LW.split (d:=26) rfl (fun h26=>?_) (fun h26=>?_)
   ·replace h26:=bT h26
    refine pA_ 3 ?_
    refine LW.split (d:=29) rfl (fun h29=>?_) (fun h29=>?_)
    ·replace h29:=bT h29
     refine pA_ 13 ?_
     have e1:fndB s.Tz (rgQ s.rg) y=_:=if_pos h9
     rw[e1]
     intro w' hw;exact⟨by first|rfl|(congr 2;simp_all;done)|(simp_all[fndQ];done)|(congr 2;cases hq0:rgQ s.rg<;>simp_all[fndQ]),hw.ro pk_ hs⟩
    ·replace h29:=bF h29
     refine Lv (Lw (l:=lkC ((tGet s.Tz y.key).getD lk0)))<|Lv (Fa 4 108)<|Lv (La (lkC y.old) (r:=[.int .i64 y.line,.int .i64 y.cls]) (hl:=rfl))<|Lv (Val.eqA rfl rfl kr_ Tryz.underlying108 kr_ (by exact(.str rfl rfl Tryz.isAgg9 Tryz.underlying9 (.int rfl rfl Tryz.isAgg48 Tryz.underlying48 (.int rfl rfl Tryz.isAgg48 Tryz.underlying48 (.int rfl rfl Tryz.isAgg3 Tryz.underlying3 (.int rfl rfl Tryz.isAgg3 Tryz.underlying3 .nil)))))))<|LW.re 33 (.bool (decide (((tGet s.Tz y.key).getD lk0)=y.old))) rfl (by exact congrArg Value.bool (lkEq ((tGet s.Tz y.key).getD lk0) y.old))<|pA_ 9 ?_
     have e1:fndB s.Tz (rgQ s.rg) y=_:=if_pos h9
     rw[e1]
     intro w' hw;exact⟨by first|rfl|(congr 2;simp_all;done)|(simp_all[fndQ];done)|(congr 2;cases hq0:rgQ s.rg<;>simp_all[fndQ]),hw.ro pk_ hs⟩
   ·replace h26:=bF h26
    refine pA_ 16 ?_
    have e1:fndB s.Tz (rgQ s.rg) y=_:=if_pos h9
    rw[e1]
    intro w' hw;exact⟨by first|rfl|(congr 2;simp_all;done)|(simp_all[fndQ];done)|(congr 2;cases hq0:rgQ s.rg<;>simp_all[fndQ]),hw.ro pk_ hs⟩
  ·refine Ro rfl AA fun b5 _=>Re 6 rfl (Cr_ (tget_g x.tb x.ms s.Tz hA.tb y.key hy)) fun _ _=>pR_ [7,8,9] ?_
   refine ReN 11 rfl (StW (cs:=lkC ((tGet s.Tz y.key).getD lk0))) fun _ _=>Rv 12 rfl Av<|pA_ 6 ?_
   refine Lv (Ld (v:= .bool y.had))<|Lv (Val.eqB rfl rfl Tryz.underlying4)<|Lv Mv ?_
   refine LW.split (d:=26) rfl (fun h26=>?_) (fun h26=>?_)
   ·replace h26:=bT h26
    refine pA_ 3 ?_
    refine LW.split (d:=29) rfl (fun h29=>?_) (fun h29=>?_)
    ·replace h29:=bT h29
     refine pA_ 13 ?_
     have e1:fndB s.Tz (rgQ s.rg) y=_:=if_pos h9
     rw[e1]
     intro w' hw;exact⟨by first|rfl|(congr 2;simp_all;done)|(simp_all[fndQ];done)|(congr 2;cases hq0:rgQ s.rg<;>simp_all[fndQ]),hw.ro pk_ hs⟩
    ·replace h29:=bF h29
     refine Lv (Lw (l:=lkC ((tGet s.Tz y.key).getD lk0)))<|Lv (Fa 4 108)<|Lv (La (lkC y.old) (r:=[.int .i64 y.line,.int .i64 y.cls]) (hl:=rfl))<|Lv (Val.eqA rfl rfl kr_ Tryz.underlying108 kr_ (by exact(.str rfl rfl Tryz.isAgg9 Tryz.underlying9 (.int rfl rfl Tryz.isAgg48 Tryz.underlying48 (.int rfl rfl Tryz.isAgg48 Tryz.underlying48 (.int rfl rfl Tryz.isAgg3 Tryz.underlying3 (.int rfl rfl Tryz.isAgg3 Tryz.underlying3 .nil)))))))<|LW.re 33 (.bool (decide (((tGet s.Tz y.key).getD lk0)=y.old))) rfl (by exact congrArg Value.bool (lkEq ((tGet s.Tz y.key).getD lk0) y.old))<|pA_ 9 ?_
     have e1:fndB s.Tz (rgQ s.rg) y=_:=if_pos h9
     rw[e1]
     intro w' hw;exact⟨by first|rfl|(congr 2;simp_all;done)|(simp_all[fndQ];done)|(congr 2;cases hq0:rgQ s.rg<;>simp_all[fndQ]),hw.ro pk_ hs⟩
   ·replace h26:=bF h26
    refine pA_ 16 ?_
    have e1:fndB s.Tz (rgQ s.rg) y=_:=if_pos h9
    rw[e1]
    intro w' hw;exact⟨by first|rfl|(congr 2;simp_all;done)|(simp_all[fndQ];done)|(congr 2;cases hq0:rgQ s.rg<;>simp_all[fndQ]),hw.ro pk_ hs⟩
 ·have h9:mapB y=false:=h9
  refine pA_ 3 ?_
  refine Lv Ld<|pA_ 4 ?_
  refine Cd_ rfl (fun h36=>?_) fun h36=>?_
  ·have h36:y.kind=5:=h36
   refine pA_ 5 ?_
   refine Lv Ld<|Le (Cr_ (lhead_c x.fb s.rg s.ro hA.rg)) fun _ _=>pA_ 3 ?_
   refine Le AA fun b7 _=>LeN (StW (cs:=lkC ((rgQ s.rg).head?.getD lk0))) fun _ _=>pA_ 7 ?_
   refine LW.split (d:=49) rfl (fun h49=>?_) (fun h49=>?_)
   ·replace h49:=bT h49
    refine Lv (Lw (l:=lkC ((rgQ s.rg).head?.getD lk0)))<|Lv (Fa 4 108)<|Lv (La (lkC y.old) (r:=[.int .i64 y.line,.int .i64 y.cls]) (hl:=rfl))<|Lv (Val.eqA rfl rfl kr_ Tryz.underlying108 kr_ (by exact(.str rfl rfl Tryz.isAgg9 Tryz.underlying9 (.int rfl rfl Tryz.isAgg48 Tryz.underlying48 (.int rfl rfl Tryz.isAgg48 Tryz.underlying48 (.int rfl rfl Tryz.isAgg3 Tryz.underlying3 (.int rfl rfl Tryz.isAgg3 Tryz.underlying3 .nil)))))))<|LW.re 53 (.bool (decide (((rgQ s.rg).head?.getD lk0)=y.old))) rfl (by exact congrArg Value.bool (lkEq ((rgQ s.rg).head?.getD lk0) y.old))<|pA_ 8 ?_
    have e1:fndB s.Tz (rgQ s.rg) y=_:=(if_neg (by simpa using h9)).trans (if_pos h36)
    rw[e1]
    intro w' hw;exact⟨by first|rfl|(congr 2;simp_all;done)|(simp_all[fndQ];done)|(congr 2;cases hq0:rgQ s.rg<;>simp_all[fndQ]),hw.ro pk_ hs⟩
   ·replace h49:=bF h49
    refine pA_ 12 ?_
    have e1:fndB s.Tz (rgQ s.rg) y=_:=(if_neg (by simpa using h9)).trans (if_pos h36)
    rw[e1]
    intro w' hw;exact⟨by first|rfl|(congr 2;simp_all;done)|(simp_all[fndQ];done)|(congr 2;cases hq0:rgQ s.rg<;>simp_all[fndQ]),hw.ro pk_ hs⟩
  ·have h36:¬y.kind=5:=h36
   refine pA_ 10 ?_
   have e1:fndB s.Tz (rgQ s.rg) y=_:=(if_neg (by simpa using h9)).trans (if_neg h36)
   rw[e1]
   intro w' hw;exact⟨by first|rfl|(congr 2;simp_all;done)|(simp_all[fndQ];done)|(congr 2;cases hq0:rgQ s.rg<;>simp_all[fndQ]),hw.ro pk_ hs⟩
def usedB (T q:List Lk)(bg:List Ent)(line:Int):Bool:=(T++q).any (fun k=>decide (k.line=line))||bg.any (fun e=>decide (e.line=line)||decide (e.anti=line))
theorem any_perm {α:Type}{l r:List α}(h:l.Perm r)(f:α→Bool):l.any f=r.any f:=by
 rw[Bool.eq_iff_iff,List.any_eq_true,List.any_eq_true]
 exact⟨fun⟨y,h1,h2⟩=>⟨y,h.subset h1,h2⟩,fun⟨y,h1,h2⟩=>⟨y,h.symm.subset h1,h2⟩⟩
theorem used_g (x:ArR)(s:ArS)(db th n:Nat)(hA:ArOk th n x s)(hst:tStp s.Tz)(hn:(tLinks s.Tz).length≤1000)(hq:(rgQ s.rg).length≤1000)(hb:s.bg.length≤1000)(line:Int):Rx Tryz.prog 251 [.pointer (some ⟨x.a,0,none⟩),.int .i64 line] (arS x s db) (.bool (usedB (tLinks s.Tz) (rgQ s.rg) s.bg line)):=by
 intro w hs
 refine Ca_ Tryz.func251 rfl Tryz.ntmps251 hs<|pA_ 7 ?_
 refine Dr ([[(x.a,.cells (arC x s).toArray 77 (0,0))]])<|pR_ [0,1,2] ?_
 refine Rv 3 rfl Ld<|pR_ [5,6,7] ?_
 refine Rv 8 rfl Ld<|Rv 12 rfl Mv<|Re 4 rfl (CM (tbS x.tb x.ms s.Tz) fun w hw hs0=>all_g x.tb x.ms s.Tz hA.tb hst hn w hs0) fun y hy=>?_
 obtain⟨oL,L⟩:=y
 have hLp:L.Perm (tLinks s.Tz)∧UpL L∧ownOk 5 L.length (L.flatMap lkC) oL:=hy
 clear hy
 have hLl:L.length=(tLinks s.Tz).length:=hLp.1.length_eq
 refine Re 9 rfl (CM (rgS 180 x.fb s.rg s.ro) fun w hw hs0=>lall_c x.fb s.rg s.ro hA.rg w hs0) fun oQ hQ=>Re 10 rfl (Eff.appendOwn (sz:=5) (bytes:=48) (z:= .agg #[.string ⟨#[]⟩,.int .u64 0,.int .u64 0,.int .i64 0,.int .i64 0]) (xs:=L.flatMap lkC) (ys:=(rgQ s.rg).flatMap lkC) (m0:=L.length) (m:=(rgQ s.rg).length) (o:=oL) (oy:=oQ) (pk:=[ownG 108 (L.flatMap lkC) oL]) (pk2:=[ownG 108 ((rgQ s.rg).flatMap lkC) oQ]) rfl rfl Tryz.underlying104 kr_ rfl om_ pk_ (by first|rfl|simp) hLp.2.2 pk_ (by simp) hQ (lk_one1 _) om_ om_) fun oM hoM=>?_
 rw[show L.flatMap lkC++(rgQ s.rg).flatMap lkC=(L++rgQ s.rg).flatMap lkC by rw[List.flatMap_append],show L.length+(rgQ s.rg).length=(L++rgQ s.rg).length by rw[List.length_append]] at hoM⊢
 have hM:ownOk 5 (L++rgQ s.rg).length ((L++rgQ s.rg).flatMap lkC) oM:=hoM
 have hMl:(L++rgQ s.rg).length=L.length+(rgQ s.rg).length:=List.length_append
 refine Rv 11 rfl (Val.lenOwn rfl Tryz.underlying104 hM)<|pA_ 3 ?_
 refine loopA (γ:=Nat) (fun i=>[(0,.pointer (some ⟨x.a,0,none⟩)),(1,.int .i64 line),(19,ownV (L++rgQ s.rg).length oM),(20,.int .i64 ((L++rgQ s.rg).length:Nat)),(21,.int .i64 (i:Nat))]) (fun i=>ownG 108 ((L++rgQ s.rg).flatMap lkC) oM::arS x s db) (fun i=>i≤(L++rgQ s.rg).length∧((L++rgQ s.rg).take i).any (fun k=>decide (k.line=line))=false) (fun i=>(L++rgQ s.rg).length-i) (0) ⟨Nat.zero_le _,rfl⟩ fun i=>?_
 rintro⟨hi1,hi2⟩
 refine pA_ 6 ?_
 refine Cd_ rfl (fun h22=>?_) fun h22=>?_
 ·obtain⟨l,hl⟩:∃l,(L++rgQ s.rg)[i]? =some l:=⟨(L++rgQ s.rg)[i]'om_,by simp⟩
  obtain⟨gM,restM,capM,rfl⟩:∃g r c,oM=some (g,r,c):=by
   rcases oM with _|⟨g,r,c⟩
   ·exact absurd hM.2 om_
   ·exact⟨g,r,c,rfl⟩
  obtain⟨r9,hr9⟩:=V.drop_flatMap lkC_len (L++rgQ s.rg) (i) l hl
  have hr8:((L++rgQ s.rg).flatMap lkC++restM).drop (0+(i)*5)=lkC l++(r9++restM):=by
   rw[Nat.zero_add,List.drop_append_of_le_length (by rw[V.flatMap_len lkC_len];omega),hr9,List.append_assoc]
  refine pA_ 6 ?_
  refine Lv (Val.indexAddrN (i:=i) rfl rfl Tryz.underlying104 Tryz.sizeOf108 om_)<|Lv (La (lkC l) (r:=r9++restM) (hl:=hr8))<|Le AA fun b6 _=>LeN (StW (cs:=lkC l)) fun _ _=>pA_ 5 ?_
  refine Lv (Ld (v:= .int .i64 l.line))<|pA_ 4 ?_
  refine Cd_ rfl (fun h28=>?_) fun h28=>?_
  ·refine pA_ 12 ?_
   have e1:usedB (tLinks s.Tz) (rgQ s.rg) s.bg line=true:=by
    unfold usedB
    rw[show(tLinks s.Tz++rgQ s.rg).any (fun k=>decide (k.line=line))=true from List.any_eq_true.2 ⟨l,(hLp.1.append_right _).subset (List.mem_of_getElem? hl),by simpa using h28⟩];rfl
   rw[e1]
   exact fr_ hs
  ·refine pA_ 7 ?_
   exact roundA (i+1) ⟨by omega,by rw[any_take hl,hi2,Bool.false_or];simpa using h28⟩ om_
 ·have hno:(L++rgQ s.rg).any (fun k=>decide (k.line=line))=false:=by rw[List.take_of_length_le om_] at hi2;exact hi2
  refine pA_ 11 ?_
  refine Lv Ld<|Le (CM (bgS x.lb s.bg s.bo) fun w hw hs0=>ball_g x.lb s.bo s.bg hA.bg om_ w hs0) fun oB hB=>Lv (Val.lenOwn rfl Tryz.underlying198 hB)<|pA_ 4 ?_
  refine loopA (γ:=Nat) (fun j=>[(0,.pointer (some ⟨x.a,0,none⟩)),(1,.int .i64 line),(34,ownV s.bg.length oB),(35,.int .i64 (s.bg.length:Nat)),(36,.int .i64 (j:Nat))]) (fun j=>ownG 360 (s.bg.flatMap enC) oB::arS x s db) (fun j=>j≤s.bg.length∧(s.bg.take j).any (fun e=>decide (e.line=line)||decide (e.anti=line))=false) (fun j=>s.bg.length-j) (0) ⟨Nat.zero_le _,rfl⟩ fun j=>?_
  rintro⟨hj1,hj2⟩
  refine pA_ 6 ?_
  refine Cd_ rfl (fun h37=>?_) fun h37=>?_
  ·obtain⟨y,hy⟩:∃y,s.bg[j]? =some y:=⟨s.bg[j]'om_,by simp⟩
   obtain⟨gB,restB,capB,rfl⟩:∃g r c,oB=some (g,r,c):=by
    rcases oB with _|⟨g,r,c⟩
    ·exact absurd hB.2 om_
    ·exact⟨g,r,c,rfl⟩
   obtain⟨r9,hr9⟩:=V.drop_flatMap enC_len s.bg (j) y hy
   have hr8:(s.bg.flatMap enC++restB).drop (0+(j)*5)=enC y++(r9++restB):=by
    rw[Nat.zero_add,List.drop_append_of_le_length (by rw[V.flatMap_len enC_len];omega),hr9,List.append_assoc]
   refine pA_ 6 ?_
   refine Lv (Val.indexAddrN (i:=j) rfl rfl Tryz.underlying198 Tryz.sizeOf360 om_)<|Lv (La (enC y) (r:=r9++restB) (hl:=hr8))<|Le AA fun b8 _=>LeN (StW (cs:=enC y)) fun _ _=>pA_ 5 ?_
   refine Lv (Ld (v:= .int .i64 y.line))<|pA_ 3 ?_
   refine LW.split (d:=44) rfl (fun h44=>?_) (fun h44=>?_)
   ·replace h44:=bT h44
    refine pA_ 20 ?_
    have e1:usedB (tLinks s.Tz) (rgQ s.rg) s.bg line=true:=by
     unfold usedB
     rw[show s.bg.any (fun e=>decide (e.line=line)||decide (e.anti=line))=true from List.any_eq_true.2 ⟨y,List.mem_of_getElem? hy,by simp_all⟩,Bool.or_true]
    rw[e1]
    exact fr_ hs
   ·replace h44:=bF h44
    refine Lv (Fa 4 3)<|Lv (Ld (v:= .int .i64 y.anti))<|pA_ 5 ?_
    refine Cd_ rfl (fun h49=>?_) fun h49=>?_
    ·refine pA_ 12 ?_
     have e1:usedB (tLinks s.Tz) (rgQ s.rg) s.bg line=true:=by
      unfold usedB
      rw[show s.bg.any (fun e=>decide (e.line=line)||decide (e.anti=line))=true from List.any_eq_true.2 ⟨y,List.mem_of_getElem? hy,by simp_all⟩,Bool.or_true]
     rw[e1]
     exact fr_ hs
    ·refine pA_ 7 ?_
     exact roundA (j+1) ⟨by omega,by rw[any_take hy,hj2,Bool.false_or];simp_all⟩ om_
  ·refine pA_ 12 ?_
   have e1:usedB (tLinks s.Tz) (rgQ s.rg) s.bg line=false:=by
    unfold usedB
    rw[← any_perm (hLp.1.append_right _),hno,Bool.false_or]
    rw[List.take_of_length_le om_] at hj2;exact hj2
   rw[e1]
   exact fr_ hs
def laidF (y:Chg)(id ver e:Int):Blk:=if y.kind=2 then⟨y.cls,1,id,ver,e,y.key,y.val⟩ else if y.kind=4 then⟨y.cls,2,id,ver,e,[],y.val⟩ else⟨0,3,id,ver,e,[],[]⟩
theorem laid_c (y:Chg)(id ver e0:Int):Rz Tryz.prog 253 [chV y,.int .u64 id,.int .u64 ver,.int .u64 e0] (.agg (blC (laidF y id ver e0)).toArray):=by
 intro w
 refine Cb_ Tryz.func253 rfl Tryz.ntmps253<|Sq<|Rg<|Le XA fun b4 _=>Le AA fun b8 _=>pA_ 5 ?_
 refine Lv (Ld (v:= .int .i64 y.cls))<|pA_ 3 ?_
 refine Lv (Bd [_,_,_,_,_,_,_])<|Le AA fun b9 _=>LeN (StW (cs:=blC (⟨y.cls,0,id,ver,e0,[],[]⟩:Blk))) fun _ _=>pA_ 6 ?_
 refine Lv Ld<|pA_ 9 ?_
 refine Cd_ rfl (fun h20=>?_) fun h20=>?_
 ·have h20:y.kind=2:=h20
  refine Dr ([[(b4,.cells (chC y).toArray 285 (0,0))]])<|Rv 0 rfl (Fa 1 9)<|Rv 1 rfl (Ld (v:=str y.key))<|Rv 2 rfl (Fa 2 9)<|Rv 3 rfl (Ld (v:=str y.val))<|Rv 4 rfl (Fa 1 3)<|ReN 5 rfl StS fun _ _=>Rv 6 rfl (Fa 5 9)<|ReN 7 rfl StS fun _ _=>Rv 8 rfl (Fa 6 9)<|ReN 9 rfl StS fun _ _=>Rd<|Bn<|Ps<|Sq<|Rg<|Lv (Lw (l:=blC (⟨y.cls,1,id,ver,e0,y.key,y.val⟩:Blk)))<|LeN (StW (cs:=blC (⟨y.cls,1,id,ver,e0,y.key,y.val⟩:Blk))) fun _ _=>Nl<|Ps<|Rt<|PQ.retC rfl rfl in_ Tryz.isAgg144 (by exact Tryz.sizeOf144) ?_
  have e1:laidF y id ver e0=_:=if_pos h20
  rw[e1]
  exact fb_
 ·have h20:¬y.kind=2:=h20
  refine pA_ 6 ?_
  refine Cd_ rfl (fun h29=>?_) fun h29=>?_
  ·have h29:y.kind=4:=h29
   refine Dr ([[(b4,.cells (chC y).toArray 285 (0,0))]])<|Rv 0 rfl (Fa 2 9)<|Rv 1 rfl (Ld (v:=str y.val))<|Rv 2 rfl (Fa 1 3)<|ReN 3 rfl StS fun _ _=>Rv 4 rfl (Fa 6 9)<|ReN 5 rfl StS fun _ _=>Rd<|Bn<|Ps<|Sq<|Rg<|Lv (Lw (l:=blC (⟨y.cls,2,id,ver,e0,[],y.val⟩:Blk)))<|LeN (StW (cs:=blC (⟨y.cls,2,id,ver,e0,[],y.val⟩:Blk))) fun _ _=>Nl<|Ps<|Rt<|PQ.retC rfl rfl in_ Tryz.isAgg144 (by exact Tryz.sizeOf144) ?_
   have e1:laidF y id ver e0=_:=(if_neg h20).trans (if_pos h29)
   rw[e1]
   exact fb_
  ·have h29:¬y.kind=4:=h29
   refine Rg<|Lv (Fa 1 3)<|LeN StS fun _ _=>Lv (Fa 0 3)<|LeN StS fun _ _=>Nl<|Bn<|Ps<|Sq<|Rg<|Lv (Lw (l:=blC (⟨0,3,id,ver,e0,[],[]⟩:Blk)))<|LeN (StW (cs:=blC (⟨0,3,id,ver,e0,[],[]⟩:Blk))) fun _ _=>Nl<|Ps<|Rt<|PQ.retC rfl rfl in_ Tryz.isAgg144 (by exact Tryz.sizeOf144) ?_
   have e1:laidF y id ver e0=_:=(if_neg h20).trans (if_neg h29)
   rw[e1]
   exact fb_
end
section
attribute [local irreducible] V.CW V.LW V.QW V.RW V.PQ V.Val V.Eff V.Qcall
open V (str byC ownV ownG ownS ownOk)
instance:Cal Tryz.prog 220:=⟨Tryz.call220⟩
instance:Cal Tryz.prog 250:=⟨Tryz.call250⟩
instance:Cal Tryz.prog 251:=⟨Tryz.call251⟩
instance:Cal Tryz.prog 252:=⟨Tryz.call252⟩
instance:Cal Tryz.prog 253:=⟨Tryz.call253⟩
def hdOne (L:List Slb)(T q:List Lk)(bg:List Ent)(p:List Chg)(y:Chg):Bool:= !needB y||((ofF L y.line).2&&decide ((ofF L y.line).1=y.cls)&& !usedB T q bg y.line&& !p.any (fun z=>needB z&&decide (z.line=y.line)))
def heldB (L:List Slb)(T q:List Lk)(bg:List Ent)(l:List Chg):Bool:=allPre (hdOne L T q bg) [] l
theorem held_g (x:ArR)(s:ArS)(db th n:Nat)(hA:ArOk th n x s)(hst:tStp s.Tz)(hn:(tLinks s.Tz).length≤1000)(hq:(rgQ s.rg).length≤1000)(hb:s.bg.length≤1000)(l:List Chg)(p:Option Addr)(c:Nat)(hl:l.length≤c∧l.length≤1000)(w:World)(hs:Sat (arS x s db) w)(h:V.slAt w p 11 chC l)(hd:∀b o,p=some ⟨b,o,none⟩→b∉V.ids (arS x s db)):Calls Tryz.prog 218 [.pointer (some ⟨x.a,0,none⟩),.slice p l.length c].toArray w fun e w'=>e= .returned (.bool (heldB s.L (tLinks s.Tz) (rgQ s.rg) s.bg l))∧Below w.heap.size w w':=by
 refine Cs_ (arS x s db) Tryz.func218 rfl Tryz.ntmps218 hs<|pA_ 14 ?_
 refine loopA (γ:=Nat) (fun k=>[(0,.pointer (some ⟨x.a,0,none⟩)),(1,.slice p l.length c),(11,.slice p l.length c),(12,.int .i64 (l.length:Nat)),(13,.int .i64 (k:Nat))]) (fun k=>arS x s db) (fun k=>k≤l.length∧heldB s.L (tLinks s.Tz) (rgQ s.rg) s.bg l=allPre (hdOne s.L (tLinks s.Tz) (rgQ s.rg) s.bg) (l.take k) (l.drop k)) (fun k=>l.length-k) (0) ⟨Nat.zero_le _,rfl⟩ fun k=>?_
 rintro⟨hk1,hk2⟩
 refine pA_ 6 ?_
 refine Cd_ rfl (fun h14=>?_) fun h14=>?_
 ·obtain⟨b1,o1,y,rfl,hb1,hy1,hr1⟩:=V.slAt_at h rfl (k:=k) om_
  have hnf:=hd b1 _ rfl
  have hst2:=allPre_step (f:=hdOne s.L (tLinks s.Tz) (rgQ s.rg) s.bg) hy1
  refine pA_ 7 ?_
  refine Lv (Val.indexAddrN (i:=k) rfl rfl Tryz.underlying286 Tryz.sizeOf285 om_)<|Lv (Val.loadOA (cs:=chC y) rfl Tryz.isAgg285 hb1 hnf (hr1 (k) _ hy1) Tryz.sizeOf285)<|Le AA fun b6 _=>Lv Av<|LeN (StW (cs:=chC y)) fun _ _=>pA_ 5 ?_
  refine Lv (Lw (l:=chC y))<|Le (Cz_ (needs_c y)) fun _ _=>pA_ 3 ?_
  refine Cd_ rfl (fun h20=>?_) fun h20=>?_
  ·refine pA_ 8 ?_
   refine PQ.round (k+1) ⟨by omega,by
    have e2:hdOne s.L (tLinks s.Tz) (rgQ s.rg) s.bg (l.take k) y=true:=by unfold hdOne;simp_all
    rw[hk2,hst2,e2,Bool.true_and]⟩ om_ (by repeat(first|exact trivial|refine⟨rfl,?_⟩)) pk_
  ·refine pA_ 4 ?_
   refine Qt<|pA_ 3 ?_
   refine Qv Ld<|Qv (Fa 9 3)<|Qv (Ld (v:= .int .i64 y.line))<|Qc (Qr_ (of_c x.pb x.sb s.L y.line hA.pl))<|pA_ 12 ?_
   refine LW.split (d:=33) rfl (fun h33=>?_) (fun h33=>?_)
   ·replace h33:=bT h33
    refine pA_ 27 ?_
    have e2:hdOne s.L (tLinks s.Tz) (rgQ s.rg) s.bg (l.take k) y=false:=by unfold hdOne;simp_all
    have e1:heldB s.L (tLinks s.Tz) (rgQ s.rg) s.bg l=false:=by rw[hk2,hst2,e2];simp
    rw[e1]
    exact fr_ hs
   ·replace h33:=bF h33
    refine Lv Mv<|Lv (Fa 10 3)<|Lv (Ld (v:= .int .i64 y.cls))<|pA_ 3 ?_
    refine LW.split (d:=39) rfl (fun h39=>?_) (fun h39=>?_)
    ·replace h39:=bT h39
     refine pA_ 21 ?_
     have e2:hdOne s.L (tLinks s.Tz) (rgQ s.rg) s.bg (l.take k) y=false:=by unfold hdOne;simp_all
     have e1:heldB s.L (tLinks s.Tz) (rgQ s.rg) s.bg l=false:=by rw[hk2,hst2,e2];simp
     rw[e1]
     exact fr_ hs
    ·replace h39:=bF h39
     refine Lv Mv<|Lv (Fa 9 3)<|Lv (Ld (v:= .int .i64 y.line))<|Le (Cr_ (used_g x s db th n hA hst hn hq hb y.line)) fun _ _=>pA_ 3 ?_
     refine Cd_ rfl (fun h44=>?_) fun h44=>?_
     ·refine pA_ 13 ?_
      have e2:hdOne s.L (tLinks s.Tz) (rgQ s.rg) s.bg (l.take k) y=false:=by unfold hdOne;simp_all
      have e1:heldB s.L (tLinks s.Tz) (rgQ s.rg) s.bg l=false:=by rw[hk2,hst2,e2];simp
      rw[e1]
      exact fr_ hs
     ·refine pA_ 6 ?_
      refine Lv (Val.slice 0 k c rfl Tryz.underlying286 Tryz.sizeOf285 rfl ⟨_,rfl⟩ rfl (fun h=>by cases h) om_ om_ om_)<|LW.re 47 (.slice (some ⟨b1,o1,none⟩) k c) rfl (by simp)<|pA_ 5 ?_
      refine loopA (γ:=Nat) (fun i=>[(0,.pointer (some ⟨x.a,0,none⟩)),(1,.slice (some ⟨b1,o1,none⟩) l.length c),(6,.pointer (some ⟨b6,0,none⟩)),(11,.slice (some ⟨b1,o1,none⟩) l.length c),(12,.int .i64 (l.length:Nat)),(13,.int .i64 (k:Nat)),(47,.slice (some ⟨b1,o1,none⟩) k c),(48,.int .i64 (k:Nat)),(49,.int .i64 (i:Nat))]) (fun i=>[(b6,.cells (chC y).toArray 285 (0,0))]::arS x s db) (fun i=>i≤k∧(l.take i).any (fun z=>needB z&&decide (z.line=y.line))=false) (fun i=>k-i) (0) ⟨Nat.zero_le _,rfl⟩ fun i=>?_
      rintro⟨hi1,hi2⟩
      refine pA_ 6 ?_
      refine Cd_ rfl (fun h50=>?_) fun h50=>?_
      ·obtain⟨z,hz⟩:∃z,l[i]? =some z:=⟨l[i]'om_,by simp⟩
       refine pA_ 6 ?_
       refine Lv (Val.indexAddrN (i:=i) rfl rfl Tryz.underlying286 Tryz.sizeOf285 om_)<|Lv (Val.loadOA (cs:=chC z) rfl Tryz.isAgg285 hb1 hnf (hr1 (i) _ hz) Tryz.sizeOf285)<|Le AA fun b10 _=>LeN (StW (cs:=chC z)) fun _ _=>pA_ 4 ?_
       refine Lv (Lw (l:=chC z))<|Le (Cz_ (needs_c z)) fun _ _=>Lv Mv ?_
       refine LW.split (d:=55) rfl (fun h55=>?_) (fun h55=>?_)
       ·replace h55:=bT h55
        refine Lv (Fa 9 3)<|Lv (Ld (v:= .int .i64 z.line))<|Lv (Fa 9 3)<|Lv (Ld (v:= .int .i64 y.line))<|pA_ 4 ?_
        refine Cd_ rfl (fun h61=>?_) fun h61=>?_
        ·refine pA_ 16 ?_
         have e2:hdOne s.L (tLinks s.Tz) (rgQ s.rg) s.bg (l.take k) y=false:=by unfold hdOne;rw[show(l.take k).any (fun z=>needB z&&decide (z.line=y.line))=true from List.any_eq_true.2 ⟨z,List.mem_of_getElem? (i:=i) (by rw[List.getElem?_take_of_lt om_];exact hz),by simp_all⟩];simp_all
         have e1:heldB s.L (tLinks s.Tz) (rgQ s.rg) s.bg l=false:=by rw[hk2,hst2,e2];simp
         rw[e1]
         exact fr_ hs
        ·refine pA_ 7 ?_
         exact roundA (i+1) ⟨by omega,by rw[any_take hz,hi2,Bool.false_or];simp_all⟩ om_
       ·replace h55:=bF h55
        refine pA_ 16 ?_
        exact roundA (i+1) ⟨by omega,by rw[any_take hz,hi2,Bool.false_or];simp_all⟩ om_
      ·refine pA_ 10 ?_
       refine PQ.round (k+1) ⟨by omega,by
        have hik:i=k:=by omega
        rw[hik] at hi2
        have e2:hdOne s.L (tLinks s.Tz) (rgQ s.rg) s.bg (l.take k) y=true:=by unfold hdOne;simp_all
        rw[hk2,hst2,e2,Bool.true_and]⟩ om_ (by repeat(first|exact trivial|refine⟨rfl,?_⟩)) pk_
 ·refine pA_ 12 ?_
  have e1:heldB s.L (tLinks s.Tz) (rgQ s.rg) s.bg l=true:=by rw[hk2,List.drop_of_length_le om_];rfl
  rw[e1]
  exact fr_ hs
def newId (y:Chg):Bool:=decide (y.kind=4)||(decide (y.kind=2)&& !y.had)
def ftOne (e:Int)(y:Chg):Bool:= !needB y||(mayF (laidF y 1 1 e)&&decide ((laidF y 1 1 e).cls=y.cls))
def cntV (l:List Chg):Nat:=(l.filter needB).length
def cntI (l:List Chg):Nat:=(l.filter fun y=>needB y&&newId y).length
def fitsF2 (id ver e:Int)(l:List Chg):Int:=if l.all (ftOne e)=true then(if 2305843009213693952<ver+cntV l∧0<cntV l∨2305843009213693952<id+cntI l∧0<cntV l then 10 else 0) else 3
theorem filt_take {α:Type}{g:α→Bool}{l:List α}{i:Nat}{y:α}(h:l[i]? =some y):((l.take (i+1)).filter g).length=((l.take i).filter g).length+(if g y=true then 1 else 0):=by
 rw[List.take_add_one,h,Option.toList_some,List.filter_append,List.length_append]
 cases hg:g y<;>simp[hg]
theorem filtT_le {α:Type}{g:α→Bool}{l:List α}(i:Nat):((l.take i).filter g).length≤l.length:=by
 have h1:=List.length_filter_le g (l.take i)
 rw[List.length_take] at h1
 omega
theorem cntV_le (l:List Chg)(i:Nat):cntV (l.take i)≤l.length:=filtT_le i
theorem cntI_le (l:List Chg)(i:Nat):cntI (l.take i)≤l.length:=filtT_le i
theorem all_take {α:Type}{g:α→Bool}{l:List α}{i:Nat}{y:α}(h:l[i]? =some y):(l.take (i+1)).all g=((l.take i).all g&&g y):=by
 rw[List.take_add_one,h,Option.toList_some,List.all_append]
 simp
def endB (id ver:Int)(l:List Chg):Bool:=decide (2305843009213693952<ver+cntV l∧0<cntV l∨2305843009213693952<id+cntI l∧0<cntV l)
theorem laid_len {y:Chg}{id ver e:Int}(h:y.key.length≤3000∧y.val.length≤100000):(laidF y id ver e).key.length≤3000∧(laidF y id ver e).val.length≤100000:=by
 unfold laidF
 split
 ·exact h
 ·split
  ·exact⟨by simp,h.2⟩
  ·exact⟨by simp,by simp⟩
theorem fits_g (x:ArR)(s:ArS)(db:Nat)(l:List Chg)(p:Option Addr)(c:Nat)(hl:l.length≤c∧l.length≤1000)(hlen:∀y∈l,y.key.length≤3000∧y.val.length≤100000)(hid:0≤s.id∧s.id≤4611686018427387904∧0≤s.ver∧s.ver≤4611686018427387904)(e0:Int)(he:0≤e0∧e0≤4611686018427387904)(w:World)(hs:Sat (arS x s db) w)(h:V.slAt w p 11 chC l)(hd:∀b o,p=some ⟨b,o,none⟩→b∉V.ids (arS x s db)):Calls Tryz.prog 219 [.pointer (some ⟨x.a,0,none⟩),.slice p l.length c,.int .u64 e0].toArray w fun e w'=>e= .returned (.int .i64 (fitsF2 s.id s.ver e0 l))∧Below w.heap.size w w':=by
 refine Cs_ (arS x s db) Tryz.func219 rfl Tryz.ntmps219 hs<|pA_ 8 ?_
 refine Le (Cr_ (anumbers_g x s)) fun _ _=>pA_ 21 ?_
 refine CW.loop (γ:=Nat) (fun k=>[(0,.pointer (some ⟨x.a,0,none⟩)),(1,.slice p l.length c),(2,.int .u64 e0),(7,.int .u64 (s.id+(cntI (l.take k):Int))),(8,.int .u64 (s.ver+(cntV (l.take k):Int))),(9,.bool (endB s.id s.ver (l.take k))),(18,.slice p l.length c),(19,.int .i64 (l.length:Nat)),(20,.int .i64 (k:Nat))]) (fun k=>arS x s db) (fun k=>k≤l.length∧(l.take k).all (ftOne e0)=true) (fun k=>l.length-k) (0) ⟨Nat.zero_le _,rfl⟩ (by rw[show s.id+(cntI (l.take 0):Int)=s.id from Int.add_zero _,show s.ver+(cntV (l.take 0):Int)=s.ver from Int.add_zero _,show endB s.id s.ver (l.take 0)=false from decide_eq_false (by simp[cntV])];exact⟨rfl,rfl,rfl,rfl,rfl,rfl,rfl,rfl,rfl,trivial⟩) pk_ fun k=>?_
 rintro⟨hk1,hk2⟩
 refine pA_ 6 ?_
 refine Cd_ rfl (fun h21=>?_) fun h21=>?_
 ·obtain⟨b1,o1,y,rfl,hb1,hy1,hr1⟩:=V.slAt_at h rfl (k:=k) om_
  have hnf:=hd b1 _ rfl
  have hcV:cntV (l.take (k+1))=_:=filt_take (g:=needB) hy1
  have hcI:cntI (l.take (k+1))=_:=filt_take (g:=fun y=>needB y&&newId y) hy1
  have hcl:=cntV_le l k
  have hci:=cntI_le l k
  have hyl:=hlen y (List.mem_of_getElem? hy1)
  have hbl:=laid_len (id:=1) (ver:=1) (e:=e0) hyl
  refine pA_ 6 ?_
  refine Lv (Val.indexAddrN (i:=k) rfl rfl Tryz.underlying286 Tryz.sizeOf285 om_)<|Lv (Val.loadOA (cs:=chC y) rfl Tryz.isAgg285 hb1 hnf (hr1 (k) _ hy1) Tryz.sizeOf285)<|Le AA fun b11 _=>LeN (StW (cs:=chC y)) fun _ _=>pA_ 5 ?_
  refine Lv (Lw (l:=chC y))<|Le (Cz_ (needs_c y)) fun _ _=>pA_ 3 ?_
  refine Cd_ rfl (fun h26=>?_) fun h26=>?_
  ·have hn:needB y=false:=by simpa using h26
   refine pA_ 8 ?_
   have e1:cntV (l.take (k+1))=cntV (l.take k):=by rw[hcV,hn];rfl
   have e2:cntI (l.take (k+1))=cntI (l.take k):=by rw[hcI,hn];rfl
   have e3:endB s.id s.ver (l.take (k+1))=endB s.id s.ver (l.take k):=by unfold endB;rw[e1,e2]
   have e4:ftOne e0 y=true:=by unfold ftOne;rw[hn];rfl
   refine PQ.round (k+1) ⟨by omega,by rw[all_take hy1,hk2,e4];rfl⟩ om_ (by rw[e1,e2,e3];exact⟨rfl,rfl,rfl,rfl,rfl,rfl,rfl,rfl,rfl,trivial⟩) pk_
  ·have hn:needB y=true:=by simpa using h26
   refine pA_ 5 ?_
   refine Lv (Lw (l:=chC y))<|Lv Mv<|Le (Cz_ (laid_c y 1 1 e0)) fun _ _=>Le AA fun b12 _=>LeN (StW (cs:=blC (laidF y 1 1 e0))) fun _ _=>pA_ 4 ?_
   refine Lv (Lw (l:=blC (laidF y 1 1 e0)))<|Le (Cz_ (may_c (laidF y 1 1 e0) ⟨by omega,by omega⟩)) fun _ _=>Lv Nt<|Lv Mv ?_
   refine LW.split (d:=33) rfl (fun h33=>?_) (fun h33=>?_)
   ·replace h33:=bT h33
    refine pA_ 22 ?_
    have e1:fitsF2 s.id s.ver e0 l=3:=by
     unfold fitsF2;rw[if_neg]
     intro h8
     have h9:=List.all_eq_true.1 h8 y (List.mem_of_getElem? hy1)
     unfold ftOne at h9;simp_all
    rw[e1]
    exact fr_ hs
   ·replace h33:=bF h33
    refine Lv (Fa 0 3)<|Lv (Ld (v:= .int .i64 (laidF y 1 1 e0).cls))<|Lv (Fa 10 3)<|Lv (Ld (v:= .int .i64 y.cls))<|pA_ 4 ?_
    refine Cd_ rfl (fun h39=>?_) fun h39=>?_
    ·refine pA_ 13 ?_
     have e1:fitsF2 s.id s.ver e0 l=3:=by
      unfold fitsF2;rw[if_neg]
      intro h8
      have h9:=List.all_eq_true.1 h8 y (List.mem_of_getElem? hy1)
      unfold ftOne at h9;simp_all
     rw[e1]
     exact fr_ hs
    ·refine pA_ 13 ?_
     refine Lv (Ld (v:= .int .i64 y.kind))<|Lv Cm<|Lv Mv ?_
     refine LW.split (d:=45) rfl (fun h45=>?_) (fun h45=>?_)
     ·replace h45:=bT h45
      refine pA_ 21 ?_
      refine LW.split (d:=58) rfl (fun h58=>?_) (fun h58=>?_)
      ·replace h58:=bT h58
       have h58p:(2305843009213693952<s.ver+(cntV (l.take k):Int)∧0<cntV (l.take k)∨2305843009213693952<s.id+(cntI (l.take k):Int)∧0<cntV (l.take k)):=of_decide_eq_true h58
       refine pA_ 15 ?_
       have e1:cntV (l.take (k+1))=cntV (l.take k)+1:=by rw[hcV,hn];rfl
       have hni:newId y=true:=by unfold newId;simp_all
       have e2:cntI (l.take (k+1))=cntI (l.take k)+1:=by rw[hcI,hn,hni];rfl
       have e4:ftOne e0 y=true:=by unfold ftOne;simp_all
       have e3:endB s.id s.ver (l.take (k+1))=true:=decide_eq_true om_
       refine PQ.round (k+1) ⟨by omega,by rw[all_take hy1,hk2,e4];rfl⟩ om_ (by rw[e1,e2,e3];exact⟨rfl,rfl,rfl,congrArg (fun z=>some (Value.int .u64 z)) om_,congrArg (fun z=>some (Value.int .u64 z)) om_,rfl,rfl,rfl,rfl,trivial⟩) pk_
      ·replace h58:=bF h58
       have h58p:¬(2305843009213693952<s.ver+(cntV (l.take k):Int)∧0<cntV (l.take k)∨2305843009213693952<s.id+(cntI (l.take k):Int)∧0<cntV (l.take k)):=of_decide_eq_false h58
       refine pA_ 4 ?_
       refine LW.split (d:=62) rfl (fun h62=>?_) (fun h62=>?_)
       ·replace h62:=bT h62
        refine pA_ 11 ?_
        have e1:cntV (l.take (k+1))=cntV (l.take k)+1:=by rw[hcV,hn];rfl
        have hni:newId y=true:=by unfold newId;simp_all
        have e2:cntI (l.take (k+1))=cntI (l.take k)+1:=by rw[hcI,hn,hni];rfl
        have e4:ftOne e0 y=true:=by unfold ftOne;simp_all
        have e3:endB s.id s.ver (l.take (k+1))=true:=decide_eq_true om_
        refine PQ.round (k+1) ⟨by omega,by rw[all_take hy1,hk2,e4];rfl⟩ om_ (by rw[e1,e2,e3];exact⟨rfl,rfl,rfl,congrArg (fun z=>some (Value.int .u64 z)) om_,congrArg (fun z=>some (Value.int .u64 z)) om_,rfl,rfl,rfl,rfl,trivial⟩) pk_
       ·replace h62:=bF h62
        refine pA_ 11 ?_
        have e1:cntV (l.take (k+1))=cntV (l.take k)+1:=by rw[hcV,hn];rfl
        have hni:newId y=true:=by unfold newId;simp_all
        have e2:cntI (l.take (k+1))=cntI (l.take k)+1:=by rw[hcI,hn,hni];rfl
        have e4:ftOne e0 y=true:=by unfold ftOne;simp_all
        have e3:endB s.id s.ver (l.take (k+1))=decide (2305843009213693952<s.id+(cntI (l.take k):Int)+1):=decide_eq_decide.2 om_
        refine PQ.round (k+1) ⟨by omega,by rw[all_take hy1,hk2,e4];rfl⟩ om_ (by rw[e1,e2,e3];exact⟨rfl,rfl,rfl,congrArg (fun z=>some (Value.int .u64 z)) om_,congrArg (fun z=>some (Value.int .u64 z)) om_,rfl,rfl,rfl,rfl,trivial⟩) pk_
     ·replace h45:=bF h45
      refine Lv (Fa 0 3)<|Lv (Ld (v:= .int .i64 y.kind))<|Lv Cm<|Lv Mv ?_
      refine LW.split (d:=49) rfl (fun h49=>?_) (fun h49=>?_)
      ·replace h49:=bT h49
       refine Lv (Fa 3 4)<|Lv (Ld (v:= .bool y.had))<|pA_ 5 ?_
       refine Cd_ rfl (fun h54=>?_) fun h54=>?_
       ·refine pA_ 9 ?_
        refine LW.split (d:=58) rfl (fun h58=>?_) (fun h58=>?_)
        ·replace h58:=bT h58
         have h58p:(2305843009213693952<s.ver+(cntV (l.take k):Int)∧0<cntV (l.take k)∨2305843009213693952<s.id+(cntI (l.take k):Int)∧0<cntV (l.take k)):=of_decide_eq_true h58
         refine pA_ 15 ?_
         have e1:cntV (l.take (k+1))=cntV (l.take k)+1:=by rw[hcV,hn];rfl
         have hni:newId y=true:=by unfold newId;simp_all
         have e2:cntI (l.take (k+1))=cntI (l.take k)+1:=by rw[hcI,hn,hni];rfl
         have e4:ftOne e0 y=true:=by unfold ftOne;simp_all
         have e3:endB s.id s.ver (l.take (k+1))=true:=decide_eq_true om_
         refine PQ.round (k+1) ⟨by omega,by rw[all_take hy1,hk2,e4];rfl⟩ om_ (by rw[e1,e2,e3];exact⟨rfl,rfl,rfl,congrArg (fun z=>some (Value.int .u64 z)) om_,congrArg (fun z=>some (Value.int .u64 z)) om_,rfl,rfl,rfl,rfl,trivial⟩) pk_
        ·replace h58:=bF h58
         have h58p:¬(2305843009213693952<s.ver+(cntV (l.take k):Int)∧0<cntV (l.take k)∨2305843009213693952<s.id+(cntI (l.take k):Int)∧0<cntV (l.take k)):=of_decide_eq_false h58
         refine pA_ 4 ?_
         refine LW.split (d:=62) rfl (fun h62=>?_) (fun h62=>?_)
         ·replace h62:=bT h62
          refine pA_ 11 ?_
          have e1:cntV (l.take (k+1))=cntV (l.take k)+1:=by rw[hcV,hn];rfl
          have hni:newId y=true:=by unfold newId;simp_all
          have e2:cntI (l.take (k+1))=cntI (l.take k)+1:=by rw[hcI,hn,hni];rfl
          have e4:ftOne e0 y=true:=by unfold ftOne;simp_all
          have e3:endB s.id s.ver (l.take (k+1))=true:=decide_eq_true om_
          refine PQ.round (k+1) ⟨by omega,by rw[all_take hy1,hk2,e4];rfl⟩ om_ (by rw[e1,e2,e3];exact⟨rfl,rfl,rfl,congrArg (fun z=>some (Value.int .u64 z)) om_,congrArg (fun z=>some (Value.int .u64 z)) om_,rfl,rfl,rfl,rfl,trivial⟩) pk_
         ·replace h62:=bF h62
          refine pA_ 11 ?_
          have e1:cntV (l.take (k+1))=cntV (l.take k)+1:=by rw[hcV,hn];rfl
          have hni:newId y=true:=by unfold newId;simp_all
          have e2:cntI (l.take (k+1))=cntI (l.take k)+1:=by rw[hcI,hn,hni];rfl
          have e4:ftOne e0 y=true:=by unfold ftOne;simp_all
          have e3:endB s.id s.ver (l.take (k+1))=decide (2305843009213693952<s.id+(cntI (l.take k):Int)+1):=decide_eq_decide.2 om_
          refine PQ.round (k+1) ⟨by omega,by rw[all_take hy1,hk2,e4];rfl⟩ om_ (by rw[e1,e2,e3];exact⟨rfl,rfl,rfl,congrArg (fun z=>some (Value.int .u64 z)) om_,congrArg (fun z=>some (Value.int .u64 z)) om_,rfl,rfl,rfl,rfl,trivial⟩) pk_
       ·refine pA_ 5 ?_
        refine LW.split (d:=58) rfl (fun h58=>?_) (fun h58=>?_)
        ·replace h58:=bT h58
         have h58p:(2305843009213693952<s.ver+(cntV (l.take k):Int)∧0<cntV (l.take k)∨2305843009213693952<s.id+(cntI (l.take k):Int)∧0<cntV (l.take k)):=of_decide_eq_true h58
         refine pA_ 15 ?_
         have e1:cntV (l.take (k+1))=cntV (l.take k)+1:=by rw[hcV,hn];rfl
         have hni:newId y=false:=by unfold newId;simp_all
         have e2:cntI (l.take (k+1))=cntI (l.take k):=by rw[hcI,hn,hni];rfl
         have e4:ftOne e0 y=true:=by unfold ftOne;simp_all
         have e3:endB s.id s.ver (l.take (k+1))=true:=decide_eq_true om_
         refine PQ.round (k+1) ⟨by omega,by rw[all_take hy1,hk2,e4];rfl⟩ om_ (by rw[e1,e2,e3];exact⟨rfl,rfl,rfl,rfl,congrArg (fun z=>some (Value.int .u64 z)) om_,rfl,rfl,rfl,rfl,trivial⟩) pk_
        ·replace h58:=bF h58
         have h58p:¬(2305843009213693952<s.ver+(cntV (l.take k):Int)∧0<cntV (l.take k)∨2305843009213693952<s.id+(cntI (l.take k):Int)∧0<cntV (l.take k)):=of_decide_eq_false h58
         refine pA_ 4 ?_
         refine LW.split (d:=62) rfl (fun h62=>?_) (fun h62=>?_)
         ·replace h62:=bT h62
          refine pA_ 11 ?_
          have e1:cntV (l.take (k+1))=cntV (l.take k)+1:=by rw[hcV,hn];rfl
          have hni:newId y=false:=by unfold newId;simp_all
          have e2:cntI (l.take (k+1))=cntI (l.take k):=by rw[hcI,hn,hni];rfl
          have e4:ftOne e0 y=true:=by unfold ftOne;simp_all
          have e3:endB s.id s.ver (l.take (k+1))=true:=decide_eq_true om_
          refine PQ.round (k+1) ⟨by omega,by rw[all_take hy1,hk2,e4];rfl⟩ om_ (by rw[e1,e2,e3];exact⟨rfl,rfl,rfl,rfl,congrArg (fun z=>some (Value.int .u64 z)) om_,rfl,rfl,rfl,rfl,trivial⟩) pk_
         ·replace h62:=bF h62
          refine pA_ 11 ?_
          have e1:cntV (l.take (k+1))=cntV (l.take k)+1:=by rw[hcV,hn];rfl
          have hni:newId y=false:=by unfold newId;simp_all
          have e2:cntI (l.take (k+1))=cntI (l.take k):=by rw[hcI,hn,hni];rfl
          have e4:ftOne e0 y=true:=by unfold ftOne;simp_all
          have e3:endB s.id s.ver (l.take (k+1))=decide (2305843009213693952<s.id+(cntI (l.take k):Int)):=decide_eq_decide.2 om_
          refine PQ.round (k+1) ⟨by omega,by rw[all_take hy1,hk2,e4];rfl⟩ om_ (by rw[e1,e2,e3];exact⟨rfl,rfl,rfl,rfl,congrArg (fun z=>some (Value.int .u64 z)) om_,rfl,rfl,rfl,rfl,trivial⟩) pk_
      ·replace h49:=bF h49
       refine pA_ 13 ?_
       refine LW.split (d:=58) rfl (fun h58=>?_) (fun h58=>?_)
       ·replace h58:=bT h58
        have h58p:(2305843009213693952<s.ver+(cntV (l.take k):Int)∧0<cntV (l.take k)∨2305843009213693952<s.id+(cntI (l.take k):Int)∧0<cntV (l.take k)):=of_decide_eq_true h58
        refine pA_ 15 ?_
        have e1:cntV (l.take (k+1))=cntV (l.take k)+1:=by rw[hcV,hn];rfl
        have hni:newId y=false:=by unfold newId;simp_all
        have e2:cntI (l.take (k+1))=cntI (l.take k):=by rw[hcI,hn,hni];rfl
        have e4:ftOne e0 y=true:=by unfold ftOne;simp_all
        have e3:endB s.id s.ver (l.take (k+1))=true:=decide_eq_true om_
        refine PQ.round (k+1) ⟨by omega,by rw[all_take hy1,hk2,e4];rfl⟩ om_ (by rw[e1,e2,e3];exact⟨rfl,rfl,rfl,rfl,congrArg (fun z=>some (Value.int .u64 z)) om_,rfl,rfl,rfl,rfl,trivial⟩) pk_
       ·replace h58:=bF h58
        have h58p:¬(2305843009213693952<s.ver+(cntV (l.take k):Int)∧0<cntV (l.take k)∨2305843009213693952<s.id+(cntI (l.take k):Int)∧0<cntV (l.take k)):=of_decide_eq_false h58
        refine pA_ 4 ?_
        refine LW.split (d:=62) rfl (fun h62=>?_) (fun h62=>?_)
        ·replace h62:=bT h62
         refine pA_ 11 ?_
         have e1:cntV (l.take (k+1))=cntV (l.take k)+1:=by rw[hcV,hn];rfl
         have hni:newId y=false:=by unfold newId;simp_all
         have e2:cntI (l.take (k+1))=cntI (l.take k):=by rw[hcI,hn,hni];rfl
         have e4:ftOne e0 y=true:=by unfold ftOne;simp_all
         have e3:endB s.id s.ver (l.take (k+1))=true:=decide_eq_true om_
         refine PQ.round (k+1) ⟨by omega,by rw[all_take hy1,hk2,e4];rfl⟩ om_ (by rw[e1,e2,e3];exact⟨rfl,rfl,rfl,rfl,congrArg (fun z=>some (Value.int .u64 z)) om_,rfl,rfl,rfl,rfl,trivial⟩) pk_
        ·replace h62:=bF h62
         refine pA_ 11 ?_
         have e1:cntV (l.take (k+1))=cntV (l.take k)+1:=by rw[hcV,hn];rfl
         have hni:newId y=false:=by unfold newId;simp_all
         have e2:cntI (l.take (k+1))=cntI (l.take k):=by rw[hcI,hn,hni];rfl
         have e4:ftOne e0 y=true:=by unfold ftOne;simp_all
         have e3:endB s.id s.ver (l.take (k+1))=decide (2305843009213693952<s.id+(cntI (l.take k):Int)):=decide_eq_decide.2 om_
         refine PQ.round (k+1) ⟨by omega,by rw[all_take hy1,hk2,e4];rfl⟩ om_ (by rw[e1,e2,e3];exact⟨rfl,rfl,rfl,rfl,congrArg (fun z=>some (Value.int .u64 z)) om_,rfl,rfl,rfl,rfl,trivial⟩) pk_
 ·refine pA_ 11 ?_
  refine Cd_ rfl (fun h67=>?_) fun h67=>?_
  ·refine pA_ 8 ?_
   have hke:k=l.length:=by omega
   subst hke
   rw[List.take_of_length_le (Nat.le_refl _)] at hk2 h67
   have e1:fitsF2 s.id s.ver e0 l=10:=by unfold fitsF2;rw[if_pos hk2];exact if_pos (of_decide_eq_true h67)
   rw[e1]
   exact fr_ hs
  ·refine pA_ 9 ?_
   have hke:k=l.length:=by omega
   subst hke
   rw[List.take_of_length_le (Nat.le_refl _)] at hk2 h67
   have e1:fitsF2 s.id s.ver e0 l=0:=by unfold fitsF2;rw[if_pos hk2];exact if_neg (of_decide_eq_false h67)
   rw[e1]
   exact fr_ hs
end
section
attribute [local irreducible] V.CW V.LW V.QW V.RW V.PQ V.Val V.Eff V.Qcall
open V (str byC ownV ownG ownS ownOk)
theorem places357:∀w,((Array.mapM (fun(f:Field)=>do pure (f.offset,← sizeOf f.type)) (Tryz.prog.fieldsOf 357):Sem (Array (Nat×Nat)))).run Tryz.prog w= .ok [(0,1),(1,1),(2,1),(3,1),(4,1),(5,1),(6,1)].toArray w:=by
 intro w;kernel_rfl
theorem places360:∀w,((Array.mapM (fun(f:Field)=>do pure (f.offset,← sizeOf f.type)) (Tryz.prog.fieldsOf 360):Sem (Array (Nat×Nat)))).run Tryz.prog w= .ok [(0,1),(1,1),(2,1),(3,1),(4,1)].toArray w:=by
 intro w;kernel_rfl
instance:Und Tryz.prog 357 (dOf Tryz.underlying357):=⟨Tryz.underlying357⟩
instance:Siz Tryz.prog 357 (kOf Tryz.sizeOf357):=⟨Tryz.sizeOf357⟩
instance:AgT Tryz.prog 357:=⟨Tryz.isAgg357⟩
instance:Zer Tryz.prog 357 (zOf Tryz.zeroValue357):=⟨Tryz.zeroValue357⟩
instance:Plc Tryz.prog 357 (fOf Tryz.underlying357) (lOf (P:=Tryz.prog) places357):=⟨places357,Tryz.underlying357⟩
instance:Plc Tryz.prog 360 (fOf Tryz.underlying360) (lOf (P:=Tryz.prog) places360):=⟨places360,Tryz.underlying360⟩
instance:Cal Tryz.prog 254:=⟨Tryz.call254⟩
instance:Cal Tryz.prog 255:=⟨Tryz.call255⟩
instance:Cal Tryz.prog 256:=⟨Tryz.call256⟩
instance:Cal Tryz.prog 257:=⟨Tryz.call257⟩
instance:Cal Tryz.prog 258:=⟨Tryz.call258⟩
instance:Cal Tryz.prog 259:=⟨Tryz.call259⟩
structure AS where
 L:List Slb
 rd:Rdr
 ck:Ck
 bg:List Ent
 Tz:Tbl
 D:List (List Lk)
 q:List Lk
 id:Int
 ver:Int
 ef:List Eft
structure ArIs (x:ArR)(s:ArS)(a:AS):Prop where
 L:s.L=a.L
 rd:s.rd=a.rd
 ck:s.ck=ckk x.cb a.ck
 bg:s.bg=a.bg
 Tz:s.Tz=a.Tz
 D:s.Lz.map Prod.fst=a.D
 q:rgQ s.rg=a.q
 id:s.id=a.id
 ver:s.ver=a.ver
 ef:s.ef=a.ef
structure AS.Sz (a:AS):Prop where
 st:tStp a.Tz
 t:(tLinks a.Tz).length≤900
 d:∀l∈a.D,l.length≤900
 q:a.q.length≤900
 b:a.bg.length≤900
 e:a.ef.length≤90000
 id:0≤a.id∧a.id≤4611686018427387904
 ver:0≤a.ver∧a.ver≤4611686018427387904
def kNotes (c:Ck)(t line:Int):Nat→Ck
 |0=>c
 |k+1=>kNote (kNotes c t line k) t (line+(k:Nat))
theorem kNotes_ok {th:Nat}{c:Ck}(h:c.Ok th)(t line:Int):∀k,(kNotes c t line k).Ok th
 |0=>h
 |k+1=>kNote_ok (kNotes_ok h t line k) _ _
def chN (a:AS)(y:Chg):Int:=if newId y=true then a.id+1 else a.id
def chId (a:AS)(y:Chg):Int:=if newId y=true then a.id+1 else y.old.id
def chB (a:AS)(y:Chg)(e:Int):Blk:=laidF y (chId a y) (a.ver+1) e
def chL (a:AS)(y:Chg)(e:Int):Lk:=⟨(chB a y e).key,chId a y,a.ver+1,y.line,(chB a y e).cls⟩
def chG (a:AS)(grp:Int):Int:=if grp=0 then a.ver+1 else grp
def chE (a:AS)(y:Chg)(e grp:Int):Eft:=⟨if y.kind=2 then 1 else if y.kind=3 then 2 else if y.kind=4 then 3 else if y.kind=5 then 4 else 0,if y.kind=3 then y.key else(chB a y e).key,(chB a y e).val,chId a y,a.ver+1,e,IntKind.i64.wrap (chG a grp)⟩
def chX (y:Chg):Int:=if y.kind=3∨y.kind=5 then y.line else -1
def chT (a:AS)(y:Chg)(e:Int):Tbl:=if y.kind=2 then tSet a.Tz (chL a y e) else if y.kind=3 then tDrop a.Tz y.key else a.Tz
def chD (a:AS)(y:Chg)(e:Int):List (List Lk):=if y.kind=2 then oset a.D (chL a y e) else if y.kind=3 then odrop a.D y.key else a.D
def chQ (a:AS)(y:Chg)(e:Int):List Lk:=if y.kind=4 then a.q++[chL a y e] else if y.kind=5 then a.q.tail else a.q
def chP (a:AS)(y:Chg)(e:Int):Ent:=⟨y.old.line,y.old.cls,a.rd.now,e,chX y⟩
def chOut (y:Chg):Bool:=y.had&& !decide (y.kind=4)
def chA (t e:Int)(a:AS)(y:Chg)(grp:Int):AS:={a with id:=chN a y,ver:=a.ver+1,ck:=kNotes a.ck t y.line (spanF (chB a y e).cls),Tz:=chT a y e,D:=chD a y e,q:=chQ a y e,bg:=if chOut y=true then bPut a.bg (chP a y e) else a.bg,ef:=a.ef++[chE a y e grp]}
def chDev (e:Int)(a:AS)(v:Dev)(y:Chg):Dev:=v.store y.line 0 ((encL (chB a y e)).take 64)
def arCC (x:ArR)(id ver:Int)(n:Nat)(eo:V.OwnO):List Value:=[.pointer (some ⟨x.dv,0,none⟩),.pointer (some ⟨x.pb,0,none⟩),.pointer (some ⟨x.rb,0,none⟩),.pointer (some ⟨x.cb,0,none⟩),.pointer (some ⟨x.lb,0,none⟩),.pointer (some ⟨x.tb,0,none⟩),.pointer (some ⟨x.ob,0,none⟩),.pointer (some ⟨x.fb,0,none⟩),.int .u64 id,.int .u64 ver,ownV n eo]
theorem enc_take {b:Blk}(hm:mayF b=true):((encL b).take 64).length=64:=by
 have h1:=encL_len hm
 have h2:=may_span hm
 rw[List.length_take,h1];omega
theorem push_len {r:Rng}{x:Lk}(h:rgOk r)(hR:r.R.length≤2000)(hn:(rgQ r).length≤900):(r.push x).R.length≤max r.R.length 1801:=by
 have h1:=rgQ_len r
 unfold Rng.push
 split
 ·rename_i h2
  simp only[List.length_append,List.length_drop,List.length_take,List.length_singleton]
  omega
 ·simp only[List.length_set];omega
theorem pop_len (r:Rng){m:Nat}:r.pop.R.length≤max r.R.length m:=by
 unfold Rng.pop
 split
 ·omega
 ·simp only[List.length_set];omega
theorem chT_ok {ms:List Nat}{a:AS}(h:tbOk ms a.Tz)(y:Chg)(e:Int):tbOk ms (chT a y e):=by
 unfold chT
 split
 ·exact tSet_ok h _
 ·split
  ·exact tDrop_ok h _
  ·exact h
theorem change_g (x:ArR)(s:ArS)(th n:Nat)(a:AS)(xd:DvR)(v:Dev)(hA:ArOk th n x s)(hI:ArIs x s a)(hz:a.Sz)(hR:s.rg.R.length≤2000)(t e0 grp:Int)(y:Chg)(hm:mayF (chB a y e0)=true)(hyl:y.key.length≤3000∧y.val.length≤100000)(hln:0≤y.line∧y.line≤1000):Mo Tryz.prog 221 [.pointer (some ⟨x.a,0,none⟩),.int .i64 t,.int .u64 e0,chV y,.int .u64 grp] (arS x s xd.db++vS xd v) (fun s':ArS=>ArOk th n x s'∧ArIs x s' (chA t e0 a y grp)∧s'.rg.R.length≤max s.rg.R.length 1801) (fun _=> .int .u64 (a.ver+1)) (fun s'=>arS x s' xd.db++vS xd (chDev e0 a v y)):=by
 intro w hs
 obtain⟨dn,m1,m2,L,rd,ck,bg,bo,Tz,Lz,rg,ro,id,ver,ef,eo⟩:=s
 obtain⟨h1,h2,h3,h4,h5,hD,hQ,h6,h7,h8⟩:=hI
 simp only at h1 h2 h3 h4 h5 hD hQ h6 h7 h8 hR
 subst h1;subst h2;subst h3;subst h4;subst h5;subst h6;subst h7;subst h8
 have hck:a.ck.Ok th:=hA.ck
 have hid:=hz.id
 have hver:=hz.ver
 have hel:=hz.e
 have hbl:=hz.b
 have hql:=hz.q
 have hOd:odOk Lz:=⟨hA.od.1,fun p hp=>⟨hA.od.2 p hp,hz.d p.1 (by rw[← hD];exact List.mem_map_of_mem hp)⟩⟩
 have hsp:=may_span hm
 have hsp9:=span_le (chB a y e0).cls
 have hel64:=encL_len hm
 have htk:=enc_take hm
 have hlL:=laid_len (id:=chId a y) (ver:=a.ver+1) (e:=e0) hyl
 refine V.calls _ Tryz.func221 rfl Tryz.ntmps221 (Nat.le_of_ble_eq_true rfl) hs<|Sq<|Rg<|Le XA fun b8 _=>pA_ 8 ?_
 refine Le (Cm_ (uAdd_c x.a 9 (arCC x a.id a.ver a.ef.length eo) 77 a.ver rfl 1)) fun _ _=>?_
 rw[IntWalk.u64_in _ (show 0≤a.ver+1∧a.ver+1≤18446744073709551615 by omega),show(arCC x a.id a.ver a.ef.length eo).set 9 (.int .u64 (a.ver+1))=arCC x a.id (a.ver+1) a.ef.length eo from rfl]
 refine pA_ 7 ?_
 refine Lv (Ld (v:= .int .u64 y.old.id))<|pA_ 4 ?_
 refine CW.join (fun _:Unit=>True) (fun _=>[(0,.pointer (some ⟨x.a,0,none⟩)),(1,.int .i64 t),(2,.int .u64 e0),(8,.pointer (some ⟨b8,0,none⟩)),(11,.int .u64 (a.ver+1)),(4,.int .u64 grp),(12,.int .u64 (chId a y))]) (fun _=>([(b8,.cells (chC y).toArray 285 (0,0))]::[(x.a,.cells (arCC x (chN a y) (a.ver+1) (a.ef.length) eo).toArray 77 (0,0))]::[(x.dv,.cells [.pointer (some ⟨xd.db,0,none⟩),.int .u32 dn,.int .i32 m1,.int .u32 m2].toArray 103 (0,0))]::(plS x.pb x.sb a.L++(rdS x.rb x.hb a.rd++(kS x.cb x.wb (a.ck)++(bgS x.lb (a.bg) bo++(tbS x.tb x.ms (a.Tz)++(odS x.ob Lz++(rgS 180 x.fb rg ro++([ownG 357 ((a.ef).flatMap efC) eo]++vS xd (v))))))))))) ?_ ?_
 ·refine Sq ?_
  refine CW.regJoin (fun _:Unit=>True) (fun _=>[(0,.pointer (some ⟨x.a,0,none⟩)),(1,.int .i64 t),(2,.int .u64 e0),(8,.pointer (some ⟨b8,0,none⟩)),(11,.int .u64 (a.ver+1)),(4,.int .u64 grp),(12,.int .u64 y.old.id),(39,.bool (newId y))]) (fun _=>([(b8,.cells (chC y).toArray 285 (0,0))]::[(x.a,.cells (arCC x (a.id) (a.ver+1) (a.ef.length) eo).toArray 77 (0,0))]::[(x.dv,.cells [.pointer (some ⟨xd.db,0,none⟩),.int .u32 dn,.int .i32 m1,.int .u32 m2].toArray 103 (0,0))]::(plS x.pb x.sb a.L++(rdS x.rb x.hb a.rd++(kS x.cb x.wb (a.ck)++(bgS x.lb (a.bg) bo++(tbS x.tb x.ms (a.Tz)++(odS x.ob Lz++(rgS 180 x.fb rg ro++([ownG 357 ((a.ef).flatMap efC) eo]++vS xd (v))))))))))) ?_ ?_
  ·refine Rg<|Lv (Fa 0 3)<|Lv (Ld (v:= .int .i64 y.kind))<|Lv Cm<|Lv Mv ?_
   refine LW.split (d:=30) rfl (fun h30=>?_) (fun h30=>?_)
   ·replace h30:=bT h30
    refine pA_ 10 ?_
    refine PQ.joined (()) (trivial) (by exact⟨rfl,rfl,rfl,rfl,rfl,rfl,rfl,congrArg (fun b=>some (Value.bool b)) (by unfold newId;simp_all),trivial⟩) pk_
   ·replace h30:=bF h30
    refine Lv (Fa 0 3)<|Lv (Ld (v:= .int .i64 y.kind))<|Lv Cm<|Lv Mv ?_
    refine LW.split (d:=34) rfl (fun h34=>?_) (fun h34=>?_)
    ·replace h34:=bT h34
     refine Lv (Fa 3 4)<|Lv (Ld (v:= .bool y.had))<|pA_ 4 ?_
     refine PQ.joined (()) (trivial) (by exact⟨rfl,rfl,rfl,rfl,rfl,rfl,rfl,congrArg (fun b=>some (Value.bool b)) (by unfold newId;simp_all),trivial⟩) pk_
    ·replace h34:=bF h34
     refine pA_ 6 ?_
     refine PQ.joined (()) (trivial) (by exact⟨rfl,rfl,rfl,rfl,rfl,rfl,rfl,congrArg (fun b=>some (Value.bool b)) (by unfold newId;simp_all),trivial⟩) pk_
  ·intro _ _
   refine Ps ?_
   refine Cd_ rfl (fun h39=>?_) fun h39=>?_
   ·have h39:newId y=true:=h39
    refine pA_ 4 ?_
    refine Le (Cm_ (uAdd_c x.a 8 (arCC x a.id (a.ver+1) a.ef.length eo) 77 a.id rfl 1)) fun _ _=>?_
    rw[IntWalk.u64_in _ (show 0≤a.id+1∧a.id+1≤18446744073709551615 by omega),show(arCC x a.id (a.ver+1) a.ef.length eo).set 8 (.int .u64 (a.id+1))=arCC x (a.id+1) (a.ver+1) a.ef.length eo from rfl]
    refine Lv Av<|Nl ?_
    have e1:chN a y=a.id+1:=if_pos h39
    have e2:chId a y=a.id+1:=if_pos h39
    rw[← e1]
    refine PQ.joinedC (()) (trivial) (by first|(rw[e2,← e1];exact⟨rfl,rfl,rfl,rfl,rfl,rfl,rfl,trivial⟩)|(rw[e2];exact⟨rfl,rfl,rfl,rfl,rfl,rfl,rfl,trivial⟩)) pk_
   ·have h39:newId y=false:=h39
    refine Sk ?_
    have e1:chN a y=a.id:=if_neg (by simp[h39])
    have e2:chId a y=y.old.id:=if_neg (by simp[h39])
    rw[← e1]
    refine PQ.joinedC (()) (trivial) (by first|(rw[e2,← e1];exact⟨rfl,rfl,rfl,rfl,rfl,rfl,rfl,trivial⟩)|(rw[e2];exact⟨rfl,rfl,rfl,rfl,rfl,rfl,rfl,trivial⟩)) pk_
 ·intro _ _
  refine Ps<|Sq ?_
  refine CW.join (fun _:Unit=>True) (fun _=>[(0,.pointer (some ⟨x.a,0,none⟩)),(1,.int .i64 t),(2,.int .u64 e0),(8,.pointer (some ⟨b8,0,none⟩)),(11,.int .u64 (a.ver+1)),(4,.int .u64 (chG a grp)),(12,.int .u64 (chId a y))]) (fun _=>([(b8,.cells (chC y).toArray 285 (0,0))]::[(x.a,.cells (arCC x (chN a y) (a.ver+1) (a.ef.length) eo).toArray 77 (0,0))]::[(x.dv,.cells [.pointer (some ⟨xd.db,0,none⟩),.int .u32 dn,.int .i32 m1,.int .u32 m2].toArray 103 (0,0))]::(plS x.pb x.sb a.L++(rdS x.rb x.hb a.rd++(kS x.cb x.wb (a.ck)++(bgS x.lb (a.bg) bo++(tbS x.tb x.ms (a.Tz)++(odS x.ob Lz++(rgS 180 x.fb rg ro++([ownG 357 ((a.ef).flatMap efC) eo]++vS xd (v))))))))))) ?_ ?_
  ·refine pA_ 6 ?_
   refine Cd_ rfl (fun h45=>?_) fun h45=>?_
   ·have h45:grp=0:=h45
    refine pA_ 4 ?_
    have e2:chG a grp=a.ver+1:=if_pos h45
    refine PQ.joinedC (()) (trivial) (by rw[e2];exact⟨rfl,rfl,rfl,rfl,rfl,rfl,rfl,trivial⟩) pk_
   ·have h45:¬grp=0:=h45
    refine Sk ?_
    have e2:chG a grp=grp:=if_neg h45
    refine PQ.joinedC (()) (trivial) (by rw[e2];exact⟨rfl,rfl,rfl,rfl,rfl,rfl,rfl,trivial⟩) pk_
  ·intro _ _
   refine pA_ 3 ?_
   refine Lv (Lw (l:=chC y))<|pA_ 3 ?_
   refine Le (Cz_ (laid_c y (chId a y) (a.ver+1) e0)) fun _ _=>LW.re 51 (.agg (blC (chB a y e0)).toArray) rfl (by rfl)<|Le AA fun b13 _=>LeN (StW (cs:=blC (chB a y e0))) fun _ _=>pA_ 4 ?_
   refine Lv (Lw (l:=blC (chB a y e0)))<|Le (Cn_ (encode_c (chB a y e0) ⟨by unfold chB;omega,by unfold chB;omega⟩)) fun o ho=>?_
   have hE:encR (chB a y e0)=encL (chB a y e0):=by unfold encR;rw[if_pos hm]
   rw[hE] at ho⊢
   obtain⟨pe,ce,hve,hce,hsrc,hse⟩:=own_src ho
   obtain⟨be,hbe,_⟩:=hsrc om_
   subst hbe
   refine LW.re 54 (.tuple #[.slice (some ⟨be,0,none⟩) (encL (chB a y e0)).length ce,.int .i64 0]) rfl (by rw[hve,if_pos hm])<|pA_ 8 ?_
   refine Dr (([[(b8,.cells (chC y).toArray 285 (0,0))],[(x.a,.cells (arCC x (chN a y) (a.ver+1) (a.ef.length) eo).toArray 77 (0,0))]]++[[(x.dv,.cells [.pointer (some ⟨xd.db,0,none⟩),.int .u32 dn,.int .i32 m1,.int .u32 m2].toArray 103 (0,0))],ownG 5 (byC (encL (chB a y e0))) o]))<|pR_ [0,2] ?_
   refine Rv 3 rfl (Ld (v:= .int .i64 y.line))<|Rv 4 rfl Mv<|Rv 5 rfl (Val.slice 0 64 ce rfl Tryz.underlying133 Tryz.sizeOf5 rfl ⟨_,rfl⟩ rfl (fun h=>by cases h) om_ om_ om_)<|RW.re 62 (.slice (some ⟨be,0,none⟩) 64 ce) rfl (by simp)<|Re 1 rfl (CV fun w hw=>adev_g x ⟨dn,m1,m2,a.L,a.rd,ckk x.cb a.ck,a.bg,bo,a.Tz,Lz,rg,ro,chN a y,a.ver+1,a.ef,eo⟩ xd.db w hw.at hw.at) fun _ _=>Re 6 rfl (CM (vS xd v) fun w hw hs0=>by have h7:=V.slAt_part (hse hw (show Pick [ownG 5 (byC (encL (chB a y e0))) o] _ _ from pk_)) (k:=0) om_ hce 64;rw[if_neg om_] at h7;have h6:V.slAt w (some ⟨be,0,none⟩) 1 byE ((encL (chB a y e0)).take 64):=(by simpa[Addr.add_mid] using h7);have h8:=store_v xd v y.line 0 ((encL (chB a y e0)).take 64) (some ⟨be,0,none⟩) ce (by rw[htk];omega) w hs0 h6 (fun _ b q hb=>by simp only[Option.some.injEq,Addr.mk.injEq] at hb;obtain⟨rfl,_⟩:=hb;exact own_not hw hve (show Pick (ownG 5 (byC (encL (chB a y e0))) o::vS xd v) _ _ from pk_) be 0 rfl);rw[htk] at h8;exact h8) fun _ _=>?_
   rw[show v.store y.line 0 ((encL (chB a y e0)).take 64)=(chDev e0 a v y) from rfl]
   refine pA_ 6 ?_
   refine Lv (Ld (v:= .int .i64 (chB a y e0).cls))<|Le (Cz_ (span_c (chB a y e0).cls)) fun _ _=>pA_ 4 ?_
   refine loopA (γ:=Nat) (fun k=>[(0,.pointer (some ⟨x.a,0,none⟩)),(1,.int .i64 t),(2,.int .u64 e0),(8,.pointer (some ⟨b8,0,none⟩)),(11,.int .u64 (a.ver+1)),(4,.int .u64 (chG a grp)),(12,.int .u64 (chId a y)),(13,.pointer (some ⟨b13,0,none⟩)),(66,.int .i64 (spanF (chB a y e0).cls:Nat)),(67,.int .i64 (k:Nat))]) (fun k=>([(b8,.cells (chC y).toArray 285 (0,0))]::[(b13,.cells (blC (chB a y e0)).toArray 144 (0,0))]::[(x.a,.cells (arCC x (chN a y) (a.ver+1) (a.ef.length) eo).toArray 77 (0,0))]::[(x.dv,.cells [.pointer (some ⟨xd.db,0,none⟩),.int .u32 dn,.int .i32 m1,.int .u32 m2].toArray 103 (0,0))]::(plS x.pb x.sb a.L++(rdS x.rb x.hb a.rd++(kS x.cb x.wb ((kNotes a.ck t y.line k))++(bgS x.lb (a.bg) bo++(tbS x.tb x.ms (a.Tz)++(odS x.ob Lz++(rgS 180 x.fb rg ro++([ownG 357 ((a.ef).flatMap efC) eo]++vS xd ((chDev e0 a v y)))))))))))) (fun k=>k≤spanF (chB a y e0).cls) (fun k=>spanF (chB a y e0).cls-k) (0) (Nat.zero_le _) fun k hk1=>pA_ 6 ?_
   refine Cd_ rfl (fun h68=>?_) fun h68=>?_
   ·refine pA_ 10 ?_
    refine Dr ([[(b8,.cells (chC y).toArray 285 (0,0))],[(x.a,.cells (arCC x (chN a y) (a.ver+1) (a.ef.length) eo).toArray 77 (0,0))]])<|pR_ [0,1,2] ?_
    refine Rv 3 rfl Ld<|pR_ [4,5] ?_
    refine Rv 6 rfl (Ld (v:= .int .i64 y.line))<|pR_ [7,8] ?_
    refine Re 9 rfl (Cm_ (knote_g x.cb x.wb (kNotes a.ck t y.line k) th (kNotes_ok hck t y.line k) t (y.line+(k:Nat)))) fun _ _=>?_
    rw[show kNote (kNotes a.ck t y.line k) t (y.line+(k:Nat))=kNotes a.ck t y.line (k+1) from rfl]
    refine pA_ 7 ?_
    exact roundA (k+1) om_ om_
   ·obtain rfl:k=spanF (chB a y e0).cls:=by omega
    refine pA_ 8 ?_
    refine Lv (Ld (v:=str (chB a y e0).key))<|pA_ 3 ?_
    refine Lv (Ld (v:= .int .i64 y.line))<|Lv (Fa 0 3)<|Lv (Ld (v:= .int .i64 (chB a y e0).cls))<|Lv (Bd (lkC (chL a y e0)))<|Le AA fun b17 _=>LeN (StW (cs:=lkC (chL a y e0))) fun _ _=>pA_ 5 ?_
    refine Lv (Ld (v:=str (chB a y e0).key))<|Lv (Fa 6 9)<|Lv (Ld (v:=str (chB a y e0).val))<|pA_ 5 ?_
    refine Lv (Bd (efC (⟨0,(chB a y e0).key,(chB a y e0).val,chId a y,a.ver+1,e0,IntKind.i64.wrap (chG a grp)⟩:Eft)))<|Le AA fun b18 _=>LeN (StW (cs:=efC (⟨0,(chB a y e0).key,(chB a y e0).val,chId a y,a.ver+1,e0,IntKind.i64.wrap (chG a grp)⟩:Eft))) fun _ _=>pA_ 8 ?_
    refine CW.join (fun z:Tbl×List LvO×Rng×V.OwnO=>z.1=chT a y e0∧z.2.1.map Prod.fst=chD a y e0∧(z.2.1.length=4∧∀p∈z.2.1,lvOk p)∧rgQ z.2.2.1=chQ a y e0∧rgO z.2.2.1 z.2.2.2∧z.2.2.1.R.length≤max rg.R.length 1801) (fun z=>[(0,.pointer (some ⟨x.a,0,none⟩)),(2,.int .u64 e0),(8,.pointer (some ⟨b8,0,none⟩)),(11,.int .u64 (a.ver+1)),(18,.pointer (some ⟨b18,0,none⟩)),(19,.int .i64 (chX y))]) (fun z=>([(b8,.cells (chC y).toArray 285 (0,0))]::[(b13,.cells (blC (chB a y e0)).toArray 144 (0,0))]::[(b18,.cells (efC (chE a y e0 grp)).toArray 357 (0,0))]::[(x.a,.cells (arCC x (chN a y) (a.ver+1) (a.ef.length) eo).toArray 77 (0,0))]::[(x.dv,.cells [.pointer (some ⟨xd.db,0,none⟩),.int .u32 dn,.int .i32 m1,.int .u32 m2].toArray 103 (0,0))]::(plS x.pb x.sb a.L++(rdS x.rb x.hb a.rd++(kS x.cb x.wb (kNotes a.ck t y.line (spanF (chB a y e0).cls))++(bgS x.lb (a.bg) bo++(tbS x.tb x.ms (z.1)++(odS x.ob z.2.1++(rgS 180 x.fb z.2.2.1 z.2.2.2++([ownG 357 ((a.ef).flatMap efC) eo]++vS xd ((chDev e0 a v y)))))))))))) ?_ ?_
    ·refine pA_ 3 ?_
     refine Lv (Ld (v:= .int .i64 y.kind))<|pA_ 9 ?_
     refine Cd_ rfl (fun h102=>?_) fun h102=>?_
     ·have h102:y.kind=2:=h102
      refine pA_ 3 ?_
      refine LeN StS fun _ _=>pA_ 3 ?_
      refine Dr ([[(b17,.cells (lkC (chL a y e0)).toArray 108 (0,0))],[(x.a,.cells (arCC x (chN a y) (a.ver+1) (a.ef.length) eo).toArray 77 (0,0))]])<|pR_ [0,1,2] ?_
      refine Rv 3 rfl Ld<|Rv 4 rfl (Lw (l:=lkC (chL a y e0)))<|Re 5 rfl (Cm_ (tset_c x.tb x.ms a.Tz hA.tb (chL a y e0) (by show(laidF _ _ _ _).key.length≤_;omega))) fun _ _=>Rd<|Ps<|Dr ([[(b17,.cells (lkC (chL a y e0)).toArray 108 (0,0))],[(x.a,.cells (arCC x (chN a y) (a.ver+1) (a.ef.length) eo).toArray 77 (0,0))]])<|pR_ [0,1,2] ?_
      refine Rv 3 rfl Ld<|Rv 4 rfl (Lw (l:=lkC (chL a y e0)))<|Re 5 rfl (Cm_ (oset_c x.ob Lz (chL a y e0) hOd (by show(laidF _ _ _ _).key.length≤_;omega))) fun Lv2 hLv=>Rd<|Bn ?_
      have eE:(⟨1,(chB a y e0).key,(chB a y e0).val,chId a y,a.ver+1,e0,IntKind.i64.wrap (chG a grp)⟩:Eft)=chE a y e0 grp:=by unfold chE;simp_all
      have eX:chX y= -1:=by unfold chX;simp_all
      rw[← eE]
      refine PQ.joinedC ((tSet a.Tz (chL a y e0),Lv2,rg,ro)) (⟨(by unfold chT;simp_all),(by unfold chD;simp_all),hLv.2,(by rw[hQ];unfold chQ;rw[if_neg om_,if_neg om_]),hA.rg,(by show rg.R.length≤max rg.R.length 1801;omega)⟩) (by rw[eX];exact⟨rfl,rfl,rfl,rfl,rfl,rfl,trivial⟩) pk_
     ·have h102:¬y.kind=2:=h102
      refine pA_ 6 ?_
      refine Cd_ rfl (fun h117=>?_) fun h117=>?_
      ·have h117:y.kind=3:=h117
       refine Sq<|Dr ([[(b8,.cells (chC y).toArray 285 (0,0))]])<|Rv 0 rfl (Fa 1 9)<|Rv 1 rfl (Ld (v:=str y.key))<|Rv 2 rfl (Fa 9 3)<|Rv 3 rfl (Ld (v:= .int .i64 y.line))<|Rv 4 rfl (Fa 0 3)<|ReN 5 rfl StS fun _ _=>Rv 6 rfl (Fa 1 9)<|ReN 7 rfl StS fun _ _=>Rv 8 rfl Av<|pA_ 3 ?_
       refine Dr ([[(b8,.cells (chC y).toArray 285 (0,0))],[(x.a,.cells (arCC x (chN a y) (a.ver+1) (a.ef.length) eo).toArray 77 (0,0))]])<|pR_ [0,1,2] ?_
       refine Rv 3 rfl Ld<|Rv 4 rfl (Fa 1 9)<|Rv 5 rfl (Ld (v:=str y.key))<|Re 6 rfl (Cm_ (tdrop_g x.tb x.ms a.Tz hA.tb y.key om_)) fun _ _=>Rd<|Ps<|Dr ([[(b8,.cells (chC y).toArray 285 (0,0))],[(x.a,.cells (arCC x (chN a y) (a.ver+1) (a.ef.length) eo).toArray 77 (0,0))]])<|pR_ [0,1,2] ?_
       refine Rv 3 rfl Ld<|Rv 4 rfl (Fa 1 9)<|Rv 5 rfl (Ld (v:=str y.key))<|Re 6 rfl (Cm_ (odrop_g x.ob Lz y.key hOd om_)) fun Lv2 hLv=>Rd<|Bn ?_
       have eE:(⟨2,y.key,(chB a y e0).val,chId a y,a.ver+1,e0,IntKind.i64.wrap (chG a grp)⟩:Eft)=chE a y e0 grp:=by unfold chE;simp_all
       have eX:chX y=y.line:=by unfold chX;simp_all
       rw[← eE]
       refine PQ.joinedC ((tDrop a.Tz y.key,Lv2,rg,ro)) (⟨(by unfold chT;simp_all),(by unfold chD;simp_all),hLv.2,(by rw[hQ];unfold chQ;rw[if_neg om_,if_neg om_]),hA.rg,(by show rg.R.length≤max rg.R.length 1801;omega)⟩) (by rw[eX];exact⟨rfl,rfl,rfl,rfl,rfl,rfl,trivial⟩) pk_
      ·have h117:¬y.kind=3:=h117
       refine pA_ 6 ?_
       refine Cd_ rfl (fun h139=>?_) fun h139=>?_
       ·have h139:y.kind=4:=h139
        refine pA_ 3 ?_
        refine LeN StS fun _ _=>Nl<|Ps<|Dr ([[(b17,.cells (lkC (chL a y e0)).toArray 108 (0,0))],[(x.a,.cells (arCC x (chN a y) (a.ver+1) (a.ef.length) eo).toArray 77 (0,0))]])<|pR_ [0,1,2] ?_
        refine Rv 3 rfl Ld<|Rv 4 rfl (Lw (l:=lkC (chL a y e0)))<|Re 5 rfl (Cm_ (lpush_c x.fb rg ro (chL a y e0) hA.rg om_)) fun ro2 hro2=>Rd<|Bn ?_
        have eE:(⟨3,(chB a y e0).key,(chB a y e0).val,chId a y,a.ver+1,e0,IntKind.i64.wrap (chG a grp)⟩:Eft)=chE a y e0 grp:=by unfold chE;simp_all
        have eX:chX y= -1:=by unfold chX;simp_all
        rw[← eE]
        refine PQ.joinedC ((a.Tz,Lz,rg.push (chL a y e0),ro2)) (⟨(by unfold chT;simp_all),(by unfold chD;simp_all),hA.od,(by rw[Rng.push_Q hA.rg.1,hQ];unfold chQ;rw[if_pos h139]),hro2,(push_len hA.rg.1 hR (by rw[hQ];omega))⟩) (by rw[eX];exact⟨rfl,rfl,rfl,rfl,rfl,rfl,trivial⟩) pk_
       ·have h139:¬y.kind=4:=h139
        refine pA_ 6 ?_
        refine Cd_ rfl (fun h148=>?_) fun h148=>?_
        ·have h148:y.kind=5:=h148
         refine Sq<|Dr ([[(b8,.cells (chC y).toArray 285 (0,0))]])<|Rv 0 rfl (Fa 9 3)<|Rv 1 rfl (Ld (v:= .int .i64 y.line))<|Rv 2 rfl (Fa 0 3)<|ReN 3 rfl StS fun _ _=>Rv 4 rfl Av<|pA_ 6 ?_
         refine Lv Ld<|Le (Cm_ (lpop_c x.fb rg ro hA.rg)) fun ro2 hro2=>Nl<|Bn ?_
         have eE:(⟨4,(chB a y e0).key,(chB a y e0).val,chId a y,a.ver+1,e0,IntKind.i64.wrap (chG a grp)⟩:Eft)=chE a y e0 grp:=by unfold chE;simp_all
         have eX:chX y=y.line:=by unfold chX;simp_all
         rw[← eE]
         refine PQ.joinedC ((a.Tz,Lz,rg.pop,ro2)) (⟨(by unfold chT;simp_all),(by unfold chD;simp_all),hA.od,(by rw[Rng.pop_Q hA.rg.1,hQ];unfold chQ;rw[if_neg om_,if_pos h148]),hro2,(pop_len rg)⟩) (by rw[eX];exact⟨rfl,rfl,rfl,rfl,rfl,rfl,trivial⟩) pk_
        ·have h148:¬y.kind=5:=h148
         refine Sk<|Bn ?_
         have eE:(⟨0,(chB a y e0).key,(chB a y e0).val,chId a y,a.ver+1,e0,IntKind.i64.wrap (chG a grp)⟩:Eft)=chE a y e0 grp:=by unfold chE;simp_all
         have eX:chX y= -1:=by unfold chX;simp_all
         rw[← eE]
         refine PQ.joinedC ((a.Tz,Lz,rg,ro)) (⟨(by unfold chT;simp_all),(by unfold chD;simp_all),hA.od,(by rw[hQ];unfold chQ;rw[if_neg om_,if_neg om_]),hA.rg,(by show rg.R.length≤max rg.R.length 1801;omega)⟩) (by rw[eX];exact⟨rfl,rfl,rfl,rfl,rfl,rfl,trivial⟩) pk_
    ·rintro z ⟨hz1,hz2,hz3,hz4,hz5,hz6⟩
     refine Ps<|Sq ?_
     refine CW.join (fun o3:V.OwnO=>ownOk 5 (if chOut y=true then bPut a.bg (chP a y e0) else a.bg).length ((if chOut y=true then bPut a.bg (chP a y e0) else a.bg).flatMap enC) o3) (fun _=>[(0,.pointer (some ⟨x.a,0,none⟩)),(11,.int .u64 (a.ver+1)),(18,.pointer (some ⟨b18,0,none⟩))]) (fun o3=>([(b18,.cells (efC (chE a y e0 grp)).toArray 357 (0,0))]::[(x.a,.cells (arCC x (chN a y) (a.ver+1) (a.ef.length) eo).toArray 77 (0,0))]::[(x.dv,.cells [.pointer (some ⟨xd.db,0,none⟩),.int .u32 dn,.int .i32 m1,.int .u32 m2].toArray 103 (0,0))]::(plS x.pb x.sb a.L++(rdS x.rb x.hb a.rd++(kS x.cb x.wb (kNotes a.ck t y.line (spanF (chB a y e0).cls))++(bgS x.lb (if chOut y=true then bPut a.bg (chP a y e0) else a.bg) o3++(tbS x.tb x.ms (z.1)++(odS x.ob z.2.1++(rgS 180 x.fb z.2.2.1 z.2.2.2++([ownG 357 ((a.ef).flatMap efC) eo]++vS xd ((chDev e0 a v y)))))))))))) ?_ ?_
     ·refine Sq ?_
      refine CW.regJoin (fun _:Unit=>True) (fun _=>[(0,.pointer (some ⟨x.a,0,none⟩)),(2,.int .u64 e0),(8,.pointer (some ⟨b8,0,none⟩)),(11,.int .u64 (a.ver+1)),(18,.pointer (some ⟨b18,0,none⟩)),(19,.int .i64 (chX y)),(164,.bool (chOut y))]) (fun _=>([(b8,.cells (chC y).toArray 285 (0,0))]::[(b13,.cells (blC (chB a y e0)).toArray 144 (0,0))]::[(b18,.cells (efC (chE a y e0 grp)).toArray 357 (0,0))]::[(x.a,.cells (arCC x (chN a y) (a.ver+1) (a.ef.length) eo).toArray 77 (0,0))]::[(x.dv,.cells [.pointer (some ⟨xd.db,0,none⟩),.int .u32 dn,.int .i32 m1,.int .u32 m2].toArray 103 (0,0))]::(plS x.pb x.sb a.L++(rdS x.rb x.hb a.rd++(kS x.cb x.wb (kNotes a.ck t y.line (spanF (chB a y e0).cls))++(bgS x.lb (a.bg) bo++(tbS x.tb x.ms (z.1)++(odS x.ob z.2.1++(rgS 180 x.fb z.2.2.1 z.2.2.2++([ownG 357 ((a.ef).flatMap efC) eo]++vS xd ((chDev e0 a v y)))))))))))) ?_ ?_
      ·refine Rg<|Lv (Fa 3 4)<|Lv (Ld (v:= .bool y.had))<|Lv Mv ?_
       refine LW.split (d:=160) rfl (fun h160=>?_) (fun h160=>?_)
       ·replace h160:=bT h160
        refine Lv (Fa 0 3)<|Lv (Ld (v:= .int .i64 y.kind))<|pA_ 3 ?_
        refine PQ.joined (()) (trivial) (by exact⟨rfl,rfl,rfl,rfl,rfl,rfl,congrArg (fun b=>some (Value.bool b)) (by unfold chOut;rw[h160];rfl),trivial⟩) pk_
       ·replace h160:=bF h160
        refine pA_ 5 ?_
        refine PQ.joined (()) (trivial) (by exact⟨rfl,rfl,rfl,rfl,rfl,rfl,congrArg (fun b=>some (Value.bool b)) (by unfold chOut;rw[h160];rfl),trivial⟩) pk_
      ·intro _ _
       refine Ps ?_
       refine Cd_ rfl (fun h164=>?_) fun h164=>?_
       ·have h164:chOut y=true:=h164
        refine Dr (([[(b8,.cells (chC y).toArray 285 (0,0))],[(x.a,.cells (arCC x (chN a y) (a.ver+1) (a.ef.length) eo).toArray 77 (0,0))]]++rdS x.rb x.hb a.rd))<|pR_ [0,1,2] ?_
        refine Rv 3 rfl Ld<|pR_ [4,5] ?_
        refine Rv 6 rfl (Ld (v:= .int .i64 y.old.line))<|pR_ [7,8] ?_
        refine Rv 9 rfl (Ld (v:= .int .i64 y.old.cls))<|pR_ [10,11,12] ?_
        refine Rv 13 rfl Ld<|pR_ [15,16] ?_
        refine Re 14 rfl (Cr_ (rnow_g x.rb x.hb a.rd)) fun _ _=>Rv 17 rfl (Bd (enC (chP a y e0)))<|Re 18 rfl (Cm_ (bput_g x.lb bo a.bg hA.bg om_ (chP a y e0))) fun o4 ho4=>Rd ?_
        rw[show(if chOut y=true then bPut a.bg (chP a y e0) else a.bg)=bPut a.bg (chP a y e0) from if_pos h164]
        exact joinC (o4) (ho4)
       ·have h164:¬chOut y=true:=by simpa using h164
        refine Sk ?_
        rw[show(if chOut y=true then bPut a.bg (chP a y e0) else a.bg)=a.bg from if_neg h164]
        exact joinC (bo) (hA.bg)
     ·intro o3 ho3
      refine Ps<|Sq<|Dr ([[(b18,.cells (efC (chE a y e0 grp)).toArray 357 (0,0))]])<|Rv 0 rfl Mv<|Rv 1 rfl Mv<|Rv 2 rfl Nz<|Rv 3 rfl (Fa 10 75)<|Rv 5 rfl (Lw (l:=efC (chE a y e0 grp)))<|V.RW.batchY [4,6] 6 190 [(4,188,_)] 4 rfl kr_ rfl rfl rfl rfl rfl (by simp) (by simp) ⟨_,rfl,rfl,rfl,Eff.buildSlice (rfl) [_,_,_,_,_,_,_] Tryz.underlying75 Tryz.sizeOf357 (by exact Tryz.zeroValue357) rfl rfl rfl rfl (by rfl)⟩ ⟨⟨_,rfl,rfl,rfl,Eff.ofVal (Ld (v:=ownV a.ef.length eo))⟩,trivial⟩ (fun _ _=>⟨⟨_,rfl,rfl,rfl,Eff.ofVal (Ld (v:=ownV a.ef.length eo))⟩,trivial⟩) ⟨_,pk_⟩ (fun _ _=>⟨_,pk_⟩) fun b190 _=>Re 7 rfl (Eff.appendAny (efC (chE a y e0 grp)) (sz:=7) (bytes:=72) (z:= .agg #[.int .i64 0,.string ⟨#[]⟩,.string ⟨#[]⟩,.int .u64 0,.int .u64 0,.int .u64 0,.int .i64 0]) (xs:=a.ef.flatMap efC) (m0:=a.ef.length) (o:=eo) (m:=1) (pk:=[ownG 357 (a.ef.flatMap efC) (eo)]) rfl rfl Tryz.underlying75 kr_ rfl om_ pk_ (by simp) hA.ef (by rfl) (fun hm0=>⟨b190,0,rfl,fun w hw=>V.range_of_block (o:=0) (cs:=efC (chE a y e0 grp)) (r:=[]) (hw.own _ (show InS (b190,.cells (efC (chE a y e0 grp)).toArray 357 (0,0)) _ from in_).mem) rfl⟩) (by rfl) om_ om_) fun oe hoe=>?_
      rw[show a.ef.flatMap efC++efC (chE a y e0 grp)=(a.ef++[chE a y e0 grp]).flatMap efC by rw[List.flatMap_append];simp,show a.ef.length+1=(a.ef++[chE a y e0 grp]).length by simp] at hoe⊢
      refine pR_ [8,9] ?_
      refine ReN 10 rfl (StS (h1:=V.ownV_one _ _)) fun _ _=>pA_ 10 ?_
      obtain⟨zT,zL,zr,zo⟩:=z
      simp only at hz1 hz2 hz3 hz4 hz5 hz6
      subst hz1
      intro w' hw
      refine⟨⟨dn,m1,m2,a.L,a.rd,ckk x.cb (kNotes a.ck t y.line (spanF (chB a y e0).cls)),if chOut y=true then bPut a.bg (chP a y e0) else a.bg,o3,chT a y e0,zL,zr,zo,chN a y,a.ver+1,(a.ef++[chE a y e0 grp]),oe⟩,⟨⟨hA.pl,hA.sl,hA.rd,kNotes_ok hck t y.line _,ho3,chT_ok hA.tb y e0,hz3,hz5,hoe⟩,⟨rfl,rfl,rfl,rfl,rfl,hz2,hz4,rfl,rfl,rfl⟩,hz6⟩,rfl,?_⟩
      exact hw.pick pk_
end
section
attribute [local irreducible] V.CW V.LW V.QW V.RW V.PQ V.Val V.Eff V.Qcall
open V (str byC ownV ownG ownS ownOk)
end
section
attribute [local irreducible] V.CW V.LW V.QW V.RW V.PQ V.Val V.Eff V.Qcall
open V (str byC ownV ownG ownS ownOk)
end
section
attribute [local irreducible] V.CW V.LW V.QW V.RW V.PQ V.Val V.Eff V.Qcall
open V (str byC ownV ownG ownS ownOk)
theorem tGet_no {Tz:Tbl}(h:tInv Tz)(k:List UInt8):(tGet Tz k).isSome=true↔∃l∈tLinks Tz,l.key=k:=by
 have hb:=bkF_lt k
 obtain⟨p,hp⟩:∃p,Tz[bkF k]? =some p:=⟨Tz[bkF k]'(by rw[h.len];omega),by simp⟩
 have e:tGet Tz k=lget p.1 k:=by unfold tGet;rw[hp];rfl
 rw[e]
 constructor
 ·intro hs
  unfold lget at hs
  rw[Option.isSome_map,List.find?_isSome] at hs
  obtain⟨x,hx,hk⟩:=hs
  refine⟨x.2,?_,by simpa using hk⟩
  unfold tLinks
  exact List.mem_flatMap.2 ⟨p,List.mem_of_getElem? hp,List.mem_map.2 ⟨x,hx,rfl⟩⟩
 ·rintro⟨l,hl,hk⟩
  unfold tLinks at hl
  obtain⟨q,hq,hlq⟩:=List.mem_flatMap.1 hl
  obtain⟨x,hx,rfl⟩:=List.mem_map.1 hlq
  obtain⟨j,hj⟩:=List.mem_iff_getElem?.1 hq
  have h1:=h.bk j q hj x hx
  rw[hk] at h1
  subst h1
  rw[hp,Option.some.injEq] at hj
  subst hj
  unfold lget
  rw[Option.isSome_map,List.find?_isSome]
  exact⟨x,hx,by simpa using hk⟩
end
section
attribute [local irreducible] V.CW V.LW V.QW V.RW V.PQ V.Val V.Eff V.Qcall
open V (str byC ownV ownG ownS ownOk)
end
section
attribute [local irreducible] V.CW V.LW V.QW V.RW V.PQ V.Val V.Eff V.Qcall
open V (str byC ownV ownG ownS ownOk)
def nk (k:List UInt8)(l:Lk):Bool:= !decide (l.key=k)
theorem nk_self {L:List Lk}{k:List UInt8}(h:∀l∈L,l.key≠k):L.filter (nk k)=L:=List.filter_eq_self.2 fun l hl=>by unfold nk;simp[h l hl]
theorem tLinks_split {Tz:Tbl}{i:Nat}{p:LE×Nat}(hp:Tz[i]? =some p)(q:LE×Nat):tLinks Tz=tLinks (Tz.take i)++(p.1.map (·.2)++tLinks (Tz.drop (i+1)))∧tLinks (Tz.set i q)=tLinks (Tz.take i)++(q.1.map (·.2)++tLinks (Tz.drop (i+1))):=by
 obtain⟨hi,hv⟩:=List.getElem?_eq_some_iff.1 hp
 have e1:Tz=Tz.take i++p::Tz.drop (i+1):=by
  have h8:=List.take_append_drop i Tz
  rw[List.drop_eq_getElem_cons hi,hv] at h8
  exact h8.symm
 have e2:Tz.set i q=Tz.take i++q::Tz.drop (i+1):=by
  rw[List.set_eq_take_append_cons_drop,if_pos hi]
 constructor
 ·conv=>lhs;rw[e1]
  unfold tLinks
  rw[List.flatMap_append,List.flatMap_cons]
 ·rw[e2]
  unfold tLinks
  rw[List.flatMap_append,List.flatMap_cons]
theorem tset_gen {Tz:Tbl}(h:tInv Tz){i:Nat}{p:LE×Nat}(hp:Tz[i]? =some p)(q:LE×Nat)(hst:V.Stp (me q.1) q.2)(hbk:∀e∈q.1,bkF e.2.key=i){k:List UInt8}(hk:bkF k=i)(T2:List Lk)(hT:T2=[]∨∃x,T2=[x]∧x.key=k)
 (hq:(q.1.map (·.2)).Perm ((p.1.map (·.2)).filter (nk k)++T2)):tInv (Tz.set i q)∧(tLinks (Tz.set i q)).Perm ((tLinks Tz).filter (nk k)++T2):=by
 obtain⟨e1,e2⟩:=tLinks_split hp q
 have hi:=(List.getElem?_eq_some_iff.1 hp).1
 have hA:∀l∈tLinks (Tz.take i),l.key≠k:=by
  intro l hl hk2
  unfold tLinks at hl
  obtain⟨q2,hq2,hlq⟩:=List.mem_flatMap.1 hl
  obtain⟨e,he,rfl⟩:=List.mem_map.1 hlq
  obtain⟨j,hj⟩:=List.mem_iff_getElem?.1 hq2
  have hji:j<i:=by have:=(List.getElem?_eq_some_iff.1 hj).1;rw[List.length_take] at this;omega
  rw[List.getElem?_take_of_lt hji] at hj
  have h1:=h.bk j q2 hj e he
  rw[hk2,hk] at h1;omega
 have hB:∀l∈tLinks (Tz.drop (i+1)),l.key≠k:=by
  intro l hl hk2
  unfold tLinks at hl
  obtain⟨q2,hq2,hlq⟩:=List.mem_flatMap.1 hl
  obtain⟨e,he,rfl⟩:=List.mem_map.1 hlq
  obtain⟨j,hj⟩:=List.mem_iff_getElem?.1 hq2
  rw[List.getElem?_drop] at hj
  have h1:=h.bk _ q2 hj e he
  rw[hk2,hk] at h1;omega
 have hperm:(tLinks (Tz.set i q)).Perm ((tLinks Tz).filter (nk k)++T2):=by
  rw[e2,e1,List.filter_append,List.filter_append,nk_self hA,nk_self hB,List.append_assoc,List.append_assoc]
  refine List.Perm.append_left _<|(hq.append_right _).trans ?_
  rw[List.append_assoc]
  exact List.Perm.append_left _ List.perm_append_comm
 refine⟨⟨by rw[List.length_set];exact h.len,fun q2 hq2=>?_,fun j q2 hq2 e he=>?_,?_⟩,hperm⟩
 ·rcases List.mem_or_eq_of_mem_set hq2 with h8|h8
  ·exact h.st q2 h8
  ·rw[h8];exact hst
 ·rw[List.getElem?_set] at hq2
  split at hq2
  ·rename_i hij
   have hq3:q=q2:=by simpa[hi] using hq2
   subst hq3
   rw[← hij];exact hbk e he
  ·exact h.bk j q2 hq2 e he
 ·have h9:=hperm.map (·.key)
  rw[h9.nodup_iff,List.map_append,List.nodup_append]
  refine⟨(h.nd.sublist (List.filter_sublist.map _)),?_,fun a ha b hb=>?_⟩
  ·rcases hT with rfl|⟨x,rfl,_⟩<;>simp
  ·obtain⟨l,hl,rfl⟩:=List.mem_map.1 ha
   have hl2:=(List.mem_filter.1 hl).2
   unfold nk at hl2
   rcases hT with rfl|⟨x,rfl,hx⟩
   ·simp at hb
   ·simp at hb;rw[hb,hx];simpa using hl2
theorem le_nd {Tz:Tbl}(h:tInv Tz){i:Nat}{p:LE×Nat}(hp:Tz[i]? =some p):((p.1.map (·.2)).map (·.key)).Nodup:=by
 have h1:=h.nd
 rw[(tLinks_split hp p).1,List.map_append,List.map_append] at h1
 exact(List.nodup_append.1 (List.nodup_append.1 h1).2.1).1
theorem lupd_perm (x:Lk):∀{E:LE},((E.map (·.2)).map (·.key)).Nodup→(lget E x.key).isSome=true→((lupd E x).map (·.2)).Perm ((E.map (·.2)).filter (nk x.key)++[x])
 |[],_,h=>by cases h
 |e::r,hn,h=>by
  rw[List.map_cons,List.map_cons,List.nodup_cons] at hn
  by_cases hk:e.2.key=x.key
  ·have e1:lupd (e::r) x=(e.1,x)::r:=by unfold lupd;rw[if_pos hk]
   have e2:(r.map (·.2)).filter (nk x.key)=r.map (·.2):=nk_self fun l hl hk2=>hn.1 (by rw[hk,← hk2];exact List.mem_map_of_mem hl)
   rw[e1,List.map_cons,List.map_cons,List.filter_cons_of_neg (by unfold nk;simp[hk]),e2]
   exact(List.perm_append_comm (l₁:=[x])).symm.symm
  ·have e1:lupd (e::r) x=e::lupd r x:=by rw[lupd,if_neg hk]
   rw[lget_cons,if_neg hk] at h
   rw[e1,List.map_cons,List.map_cons,List.filter_cons_of_pos (by unfold nk;simp[hk])]
   exact(lupd_perm x hn.2 h).cons _
theorem lupd_bk {E:LE}{x:Lk}{i:Nat}(h:∀e∈E,bkF e.2.key=i)(hx:bkF x.key=i):∀e∈lupd E x,bkF e.2.key=i:=by
 induction E with
 |nil=>exact h
 |cons e r ih=>
  by_cases hk:e.2.key=x.key
  ·have e1:lupd (e::r) x=(e.1,x)::r:=by unfold lupd;rw[if_pos hk]
   rw[e1]
   intro z hz
   rcases List.mem_cons.1 hz with rfl|hz
   ·exact hx
   ·exact h z (by simp[hz])
  ·have e1:lupd (e::r) x=e::lupd r x:=by rw[lupd,if_neg hk]
   rw[e1]
   intro z hz
   rcases List.mem_cons.1 hz with rfl|hz
   ·exact h _ (by simp)
   ·exact ih (fun z hz=>h z (by simp[hz])) z hz
theorem ldrop_eq (k:List UInt8):∀{E:LE},((E.map (·.2)).map (·.key)).Nodup→(ldrop E k).map (·.2)=(E.map (·.2)).filter (nk k)
 |[],_=>rfl
 |e::r,hn=>by
  rw[List.map_cons,List.map_cons,List.nodup_cons] at hn
  by_cases hk:e.2.key=k
  ·have e2:(r.map (·.2)).filter (nk k)=r.map (·.2):=nk_self fun l hl hk2=>hn.1 (by rw[hk,← hk2];exact List.mem_map_of_mem hl)
   rw[ldrop,if_pos hk,List.map_cons,List.filter_cons_of_neg (by unfold nk;simp[hk]),e2]
  ·rw[ldrop,if_neg hk,List.map_cons,List.map_cons,List.filter_cons_of_pos (by unfold nk;simp[hk]),ldrop_eq k hn.2]
theorem ldrop_sub (k:List UInt8):∀(E:LE),∀e∈ldrop E k,e∈E
 |[],e,he=>he
 |d::r,e,he=>by
  rw[ldrop] at he
  split at he
  ·exact List.mem_cons_of_mem _ he
  ·rcases List.mem_cons.1 he with rfl|he
   ·simp
   ·exact List.mem_cons_of_mem _ (ldrop_sub k r e he)
theorem tset_list {Tz:Tbl}(h:tInv Tz)(x:Lk):tInv (tSet Tz x)∧(tLinks (tSet Tz x)).Perm ((tLinks Tz).filter (nk x.key)++[x]):=by
 have hb:=bkF_lt x.key
 obtain⟨p,hp⟩:∃p,Tz[bkF x.key]? =some p:=⟨Tz[bkF x.key]'(by rw[h.len];omega),by simp⟩
 have e:tSet Tz x=Tz.set (bkF x.key) (lput p.1 x p.2,lclk p.1 x.key p.2):=by unfold tSet;rw[hp]
 have hst:V.Stp (me (lput p.1 x p.2)) (lclk p.1 x.key p.2):=by
  rw[← mput_me,← mclk_me]
  exact(h.st p (List.mem_of_getElem? hp)).put _ _
 have hpb:=h.bk _ p hp
 rw[e]
 by_cases hg:(lget p.1 x.key).isSome=true
 ·have e2:lput p.1 x p.2=lupd p.1 x:=by unfold lput;rw[if_pos hg]
  rw[e2] at hst⊢
  exact tset_gen h hp _ hst (lupd_bk hpb rfl) rfl [x] (.inr ⟨x,rfl,rfl⟩) (lupd_perm x (le_nd h hp) hg)
 ·have e2:lput p.1 x p.2=p.1++[(p.2,x)]:=by unfold lput;rw[if_neg hg]
  have hl:lget p.1 x.key=none:=by simpa using hg
  rw[e2] at hst⊢
  refine tset_gen h hp _ hst (fun z hz=>?_) rfl [x] (.inr ⟨x,rfl,rfl⟩) ?_
  ·rcases List.mem_append.1 hz with hz|hz
   ·exact hpb z hz
   ·rw[List.mem_singleton] at hz;rw[hz]
  ·have e3:(p.1.map (·.2)).filter (nk x.key)=p.1.map (·.2):=nk_self fun l hl2=>by
    obtain⟨z,hz,rfl⟩:=List.mem_map.1 hl2
    exact lget_none hl z hz
   rw[e3];simp
theorem tdrop_list {Tz:Tbl}(h:tInv Tz)(k:List UInt8):tInv (tDrop Tz k)∧(tLinks (tDrop Tz k)).Perm ((tLinks Tz).filter (nk k)):=by
 have hb:=bkF_lt k
 obtain⟨p,hp⟩:∃p,Tz[bkF k]? =some p:=⟨Tz[bkF k]'(by rw[h.len];omega),by simp⟩
 have e:tDrop Tz k=Tz.set (bkF k) (ldrop p.1 k,p.2):=by unfold tDrop;rw[hp]
 have hst:V.Stp (me (ldrop p.1 k)) p.2:=by
  rw[← mdel_me]
  exact(h.st p (List.mem_of_getElem? hp)).del _
 rw[e]
 have h8:=tset_gen h hp (ldrop p.1 k,p.2) hst (fun z hz=>h.bk _ p hp z (ldrop_sub k _ z hz)) (k:=k) rfl [] (.inl rfl) (by rw[List.append_nil];show((ldrop p.1 k).map (·.2)).Perm _;rw[ldrop_eq k (le_nd h hp)])
 rw[List.append_nil] at h8
 exact h8
theorem tget_mem {Tz:Tbl}{k:List UInt8}{l:Lk}(hg:tGet Tz k=some l):l∈tLinks Tz∧l.key=k:=by
 unfold tGet at hg
 cases hp:Tz[bkF k]? with
 |none=>rw[hp] at hg;cases hg
 |some p=>
  rw[hp] at hg
  have hg2:lget p.1 k=some l:=hg
  unfold lget at hg2
  obtain⟨z,hz,rfl⟩:=Option.map_eq_some_iff.1 hg2
  have h1:=List.find?_some hz
  refine⟨?_,by simpa using h1⟩
  unfold tLinks
  exact List.mem_flatMap.2 ⟨p,List.mem_of_getElem? hp,List.mem_map.2 ⟨z,List.mem_of_find?_eq_some hz,rfl⟩⟩
theorem key_one {T:List Lk}(h:(T.map (·.key)).Nodup){a b:Lk}(ha:a∈T)(hb:b∈T)(hk:a.key=b.key):a=b:=by
 induction T with
 |nil=>cases ha
 |cons c r ih=>
  rw[List.map_cons,List.nodup_cons] at h
  rcases List.mem_cons.1 ha with rfl|ha2
  ·rcases List.mem_cons.1 hb with rfl|hb2
   ·rfl
   ·exact absurd (List.mem_map.2 ⟨b,hb2,hk.symm⟩) h.1
  ·rcases List.mem_cons.1 hb with rfl|hb2
   ·exact absurd (List.mem_map.2 ⟨a,ha2,hk⟩) h.1
   ·exact ih h.2 ha2 hb2
theorem tget_iff {Tz:Tbl}(h:tInv Tz){k:List UInt8}{l:Lk}:tGet Tz k=some l↔l∈tLinks Tz∧l.key=k:=by
 refine⟨tget_mem,fun⟨h1,h2⟩=>?_⟩
 have h3:=(tGet_no h k).2 ⟨l,h1,h2⟩
 obtain⟨m,hm⟩:=Option.isSome_iff_exists.1 h3
 obtain⟨h4,h5⟩:=tget_mem hm
 rw[hm,key_one h.nd h4 h1 (h5.trans h2.symm)]
structure AS.In (a:AS)(th n m f:Nat):Prop where
 ck:a.ck.Ok th
 ph:a.ck.Ph
 rd:a.rd.has.length=th
 pl:plOk a.L
 sl:a.L.length=(slabsF n).toNat
 tb:tInv a.Tz
 D4:a.D.length=4
 t:(tLinks a.Tz).length≤m
 d:∀l∈a.D,l.length≤m
 q:a.q.length≤m
 b:a.bg.length≤m
 e:a.ef.length≤f
 id:0≤a.id∧a.id≤2305843009213693952
 ver:0≤a.ver∧a.ver≤2305843009213693952
theorem AS.In.up {a:AS}{th n m m' f f':Nat}(h:a.In th n m f)(hm:m≤m')(hf:f≤f'):a.In th n m' f':=⟨h.ck,h.ph,h.rd,h.pl,h.sl,h.tb,h.D4,Nat.le_trans h.t hm,fun l hl=>Nat.le_trans (h.d l hl) hm,Nat.le_trans h.q hm,Nat.le_trans h.b hm,Nat.le_trans h.e hf,h.id,h.ver⟩
theorem AS.In.sz {a:AS}{th n m f:Nat}(h:a.In th n m f)(hm:m≤900)(hf:f≤90000):a.Sz:=⟨h.tb.st,Nat.le_trans h.t hm,fun l hl=>Nat.le_trans (h.d l hl) hm,Nat.le_trans h.q hm,Nat.le_trans h.b hm,Nat.le_trans h.e hf,⟨h.id.1,by have:=h.id.2;omega⟩,⟨h.ver.1,by have:=h.ver.2;omega⟩⟩
theorem setTo_len (D:List (List Lk))(x:Lk)(k:Nat):(setTo D x k).length=D.length:=by unfold setTo;simp
theorem dropTo_len (D:List (List Lk))(k:List UInt8)(i:Nat):(dropTo D k i).length=D.length:=by unfold dropTo;simp
theorem setTo_le {D:List (List Lk)}{x:Lk}{k m:Nat}(h:∀l∈D,l.length≤m):∀l∈setTo D x k,l.length≤m+1:=by
 intro l hl
 obtain⟨j,hj⟩:=List.mem_iff_getElem?.1 hl
 unfold setTo at hj
 rw[List.getElem?_mapIdx,Option.map_eq_some_iff] at hj
 obtain⟨l0,h0,h1⟩:=hj
 have h2:=h l0 (List.mem_of_getElem? h0)
 split at h1
 ·rw[← h1];have:=setL_len l0 x;omega
 ·rw[← h1];omega
theorem dropTo_le {D:List (List Lk)}{x:List UInt8}{k m:Nat}(h:∀l∈D,l.length≤m):∀l∈dropTo D x k,l.length≤m:=by
 intro l hl
 obtain⟨j,hj⟩:=List.mem_iff_getElem?.1 hl
 unfold dropTo at hj
 rw[List.getElem?_mapIdx,Option.map_eq_some_iff] at hj
 obtain⟨l0,h0,h1⟩:=hj
 have h2:=h l0 (List.mem_of_getElem? h0)
 split at h1
 ·rw[← h1];unfold dropL;split
  ·have:=List.length_eraseIdx_le l0 (posF l0 x);omega
  ·omega
 ·rw[← h1];omega
theorem kNote_ph {c:Ck}(h:c.Ph)(t line:Int):(kNote c t line).Ph:=by unfold kNote;split<;>exact h
theorem kNotes_ph {c:Ck}(h:c.Ph)(t line:Int):∀k,(kNotes c t line k).Ph
 |0=>h
 |k+1=>kNote_ph (kNotes_ph h t line k) _ _
theorem chT_inv {a:AS}(h:tInv a.Tz)(y:Chg)(e:Int):tInv (chT a y e)∧(tLinks (chT a y e)).length≤(tLinks a.Tz).length+1:=by
 unfold chT
 split
 ·obtain⟨h1,h2⟩:=tset_list h (chL a y e)
  refine⟨h1,?_⟩
  rw[h2.length_eq,List.length_append]
  have:=List.length_filter_le (nk (chL a y e).key) (tLinks a.Tz)
  simp only[List.length_singleton];omega
 ·split
  ·obtain⟨h1,h2⟩:=tdrop_list h y.key
   refine⟨h1,?_⟩
   rw[h2.length_eq]
   have:=List.length_filter_le (nk y.key) (tLinks a.Tz)
   omega
  ·exact⟨h,Nat.le_succ _⟩
theorem chA_in {a:AS}{th n m f:Nat}(h:a.In th n m f)(t e grp:Int)(y:Chg)(hv:a.ver+1≤2305843009213693952)(hi:chN a y≤2305843009213693952):(chA t e a y grp).In th n (m+1) (f+1):=by
 have hT:=chT_inv h.tb y e
 refine⟨kNotes_ok h.ck _ _ _,kNotes_ph h.ph _ _ _,h.rd,h.pl,h.sl,hT.1,?_,Nat.le_trans hT.2 (Nat.succ_le_succ h.t),?_,?_,?_,?_,⟨?_,hi⟩,⟨?_,hv⟩⟩
 ·show(chD a y e).length=4
  unfold chD oset odrop;split
  ·rw[setTo_len];exact h.D4
  ·split
   ·rw[dropTo_len];exact h.D4
   ·exact h.D4
 ·show ∀l∈chD a y e,_
  unfold chD oset odrop;split
  ·exact setTo_le h.d
  ·split
   ·exact fun l hl=>Nat.le_succ_of_le (dropTo_le h.d l hl)
   ·exact fun l hl=>Nat.le_succ_of_le (h.d l hl)
 ·show(chQ a y e).length≤_
  have:=h.q
  unfold chQ;split
  ·simp;exact this
  ·split
   ·rw[List.length_tail];omega
   ·omega
 ·show(if chOut y=true then bPut a.bg (chP a y e) else a.bg).length≤_
  have:=h.b
  split
  ·unfold bPut;split
   ·simp;exact this
   ·omega
  ·omega
 ·show(a.ef++[chE a y e grp]).length≤_
  have:=h.e
  simp;omega
 ·show 0≤chN a y
  have:=h.id
  unfold chN;split<;>omega
 ·show 0≤a.ver+1
  have:=h.ver;omega
end
section
attribute [local irreducible] V.CW V.LW V.QW V.RW V.PQ V.Val V.Eff V.Qcall
open V (str byC ownV ownG ownS ownOk)
instance:Siz Tryz.prog 81 (kOf Tryz.sizeOf81):=⟨Tryz.sizeOf81⟩
instance:AgF Tryz.prog 81:=⟨Tryz.isAgg81⟩
instance:Cal Tryz.prog 17:=⟨Tryz.call17⟩
instance:Cal Tryz.prog 215:=⟨Tryz.call215⟩
instance:Cal Tryz.prog 216:=⟨Tryz.call216⟩
instance:Cal Tryz.prog 217:=⟨Tryz.call217⟩
instance:Cal Tryz.prog 218:=⟨Tryz.call218⟩
instance:Cal Tryz.prog 219:=⟨Tryz.call219⟩
instance:Cal Tryz.prog 221:=⟨Tryz.call221⟩
def pubE (a:AS)(t e:Int)(l:List Chg):Int:=
 if ¬inR a.ck.owed t∨shapeB l=false then 1 else if a.ck.now≠e then 8 else
 if l.all (fndB a.Tz a.q)=false then 8 else if heldB a.L (tLinks a.Tz) a.q a.bg l=false then 1 else fitsF2 a.id a.ver e l
def pubGo (t e:Int):List Chg→AS×Dev×Int→AS×Dev×Int
 |[],z=>z
 |y::r,z=>pubGo t e r (if needB y=true then(chA t e z.1 y z.2.2,chDev e z.1 z.2.1 y,if z.2.2=0 then z.1.ver+1 else z.2.2) else z)
def pubZ (t e:Int)(a:AS)(v:Dev)(l:List Chg):AS×Dev×Int:=pubGo t e l (a,v,0)
def pubA (t e:Int)(a:AS)(v:Dev)(l:List Chg):AS×Dev:=if pubE a t e l=0 then((pubZ t e a v l).1,(pubZ t e a v l).2.1) else(a,v)
def hitsF (l:List Chg):List Bool:=l.map chOut
theorem pubGo_app (t e:Int):∀(A B:List Chg) (z:AS×Dev×Int),pubGo t e (A++B) z=pubGo t e B (pubGo t e A z)
 |[],_,_=>rfl
 |_::A,B,_=>pubGo_app t e A B _
theorem pubZ_up {t e:Int}{a:AS}{v:Dev}{l:List Chg}{k:Nat}{y:Chg}(h:l[k]? =some y):pubZ t e a v (l.take (k+1))=(if needB y=true then(chA t e (pubZ t e a v (l.take k)).1 y (pubZ t e a v (l.take k)).2.2,chDev e (pubZ t e a v (l.take k)).1 (pubZ t e a v (l.take k)).2.1 y,if(pubZ t e a v (l.take k)).2.2=0 then(pubZ t e a v (l.take k)).1.ver+1 else(pubZ t e a v (l.take k)).2.2) else pubZ t e a v (l.take k)):=by
 unfold pubZ
 rw[List.take_add_one,h,Option.toList_some,pubGo_app]
 rfl
def boC (b:Bool):List Value:=[.bool b]
theorem boC_len (b:Bool):(boC b).length=1:=rfl
theorem may_ids {y:Chg}{id ver e:Int}(h:mayF (laidF y 1 1 e)=true)(hi:1≤id∧id≤2305843009213693952)(hv:1≤ver∧ver≤2305843009213693952):mayF (laidF y id ver e)=true:=by
 have h2:∀b:Blk,b.kind≠0→mayF b=true→mayF {b with id:=id,ver:=ver}=true:=by
  intro b hb hm
  unfold mayF at hm⊢
  simp only at hm⊢
  simp_all
  first|done|(unfold numF;simp;omega)
 have e1:laidF y id ver e={laidF y 1 1 e with id:=id,ver:=ver}:=by unfold laidF;split;rfl;split<;>rfl
 rw[e1]
 refine h2 _ ?_ h
 unfold laidF
 split
 ·simp
 ·split<;>simp
theorem filt_mono {α:Type}{g:α→Bool}{l:List α}{i:Nat}:((l.take i).filter g).length≤(l.filter g).length:=(List.take_sublist i l).filter g|>.length_le
theorem pubE_zero {a:AS}{t e:Int}{l:List Chg}(h:pubE a t e l=0):inR a.ck.owed t∧shapeB l=true∧a.ck.now=e∧l.all (fndB a.Tz a.q)=true∧heldB a.L (tLinks a.Tz) a.q a.bg l=true∧fitsF2 a.id a.ver e l=0:=by
 unfold pubE at h
 by_cases h1:¬inR a.ck.owed t∨shapeB l=false
 ·rw[if_pos h1] at h;exact absurd h (by decide)
 rw[if_neg h1] at h
 by_cases h2:a.ck.now≠e
 ·rw[if_pos h2] at h;exact absurd h (by decide)
 rw[if_neg h2] at h
 by_cases h3:l.all (fndB a.Tz a.q)=false
 ·rw[if_pos h3] at h;exact absurd h (by decide)
 rw[if_neg h3] at h
 by_cases h4:heldB a.L (tLinks a.Tz) a.q a.bg l=false
 ·rw[if_pos h4] at h;exact absurd h (by decide)
 rw[if_neg h4] at h
 simp only[not_or,Classical.not_not,Bool.not_eq_false] at h1 h2 h3 h4
 exact⟨h1.1,h1.2,h2,h3,h4,h⟩
theorem fits_zero {id ver e:Int}{l:List Chg}(h:fitsF2 id ver e l=0):(∀y∈l,ftOne e y=true)∧(0<cntV l→ver+cntV l≤2305843009213693952∧id+cntI l≤2305843009213693952):=by
 unfold fitsF2 at h
 by_cases h1:l.all (ftOne e)=true
 ·rw[if_pos h1] at h
  refine⟨List.all_eq_true.1 h1,fun h0=>?_⟩
  by_cases h2:2305843009213693952<ver+cntV l∧0<cntV l∨2305843009213693952<id+cntI l∧0<cntV l
  ·rw[if_pos h2] at h;exact absurd h (by decide)
  ·constructor<;>omega
 ·rw[if_neg h1] at h;exact absurd h (by decide)
theorem allPre_at {α:Type}{f:List α→α→Bool}:∀(r p:List α),allPre f p r=true→∀y∈r,∃p',f p' y=true
 |[],_,_,y,hy=>by cases hy
 |x::r,p,h,y,hy=>by
  rw[allPre,Bool.and_eq_true] at h
  rcases List.mem_cons.1 hy with rfl|hy
  ·exact⟨p,h.1⟩
  ·exact allPre_at r _ h.2 y hy
theorem of_rng {L:List Slb}{line:Int}(h:(ofF L line).2=true):2≤line∧line<258:=by
 unfold ofF at h
 cases hat:atF L line with
 |none=>rw[hat] at h;cases h
 |some z=>
  have h1:¬slabOfF line<0:=by
   intro h8
   unfold atF at hat
   rw[if_pos (.inl h8)] at hat;cases hat
  unfold slabOfF at h1
  split at h1<;>omega
def AS.Ids (a:AS):Prop:=∀k∈tLinks a.Tz++a.q,1≤k.id∧k.id≤2305843009213693952
theorem pubZ_num {t e:Int}{a:AS}{v:Dev}{l:List Chg}:∀k,k≤l.length→(pubZ t e a v (l.take k)).1.ver=a.ver+cntV (l.take k)∧(pubZ t e a v (l.take k)).1.id=a.id+cntI (l.take k)
 |0,_=>⟨by simp[pubZ,pubGo,cntV],by simp[pubZ,pubGo,cntI]⟩
 |k+1,hk=>by
  obtain⟨h1,h2⟩:=pubZ_num (t:=t) (e:=e) (a:=a) (v:=v) (l:=l) k om_
  obtain⟨y,hy⟩:∃y,l[k]? =some y:=⟨l[k]'om_,by simp⟩
  have hcV:cntV (l.take (k+1))=cntV (l.take k)+_:=filt_take (g:=needB) hy
  have hcI:cntI (l.take (k+1))=cntI (l.take k)+_:=filt_take (g:=fun y=>needB y&&newId y) hy
  rw[pubZ_up hy,hcV,hcI]
  by_cases hn:needB y=true
  ·rw[if_pos hn,if_pos hn]
   refine⟨?_,?_⟩
   ·show(pubZ t e a v (l.take k)).1.ver+1=_
    rw[h1];omega
   ·show chN (pubZ t e a v (l.take k)).1 y=_
    unfold chN
    by_cases hi:newId y=true
    ·rw[if_pos hi,if_pos (by rw[hn,hi];rfl),h2];omega
    ·rw[if_neg hi,if_neg (by rw[hn];simpa using hi),h2];omega
  ·rw[if_neg hn,if_neg hn,if_neg (by simp[hn])]
   exact⟨by omega,by omega⟩
theorem pub_ok {a:AS}{th n m f:Nat}(h:a.In th n m f)(hL:a.Ids){t e:Int}{v:Dev}{l:List Chg}(h0:pubE a t e l=0){k:Nat}{y:Chg}(hy:l[k]? =some y)(hn:needB y=true):
 mayF (chB (pubZ t e a v (l.take k)).1 y e)=true∧(0≤y.line∧y.line≤1000)∧(pubZ t e a v (l.take k)).1.ver+1≤2305843009213693952∧chN (pubZ t e a v (l.take k)).1 y≤2305843009213693952:=by
 obtain⟨_,hsh,hnow,hfd,hhe,hft⟩:=pubE_zero h0
 obtain⟨hf1,hf2⟩:=fits_zero hft
 have hmem:=List.mem_of_getElem? hy
 have hk:=(List.getElem?_eq_some_iff.1 hy).1
 obtain⟨hv,hi⟩:=pubZ_num (t:=t) (e:=e) (a:=a) (v:=v) (l:=l) k om_
 have hcV:cntV (l.take (k+1))=cntV (l.take k)+_:=filt_take (g:=needB) hy
 have hcI:cntI (l.take (k+1))=cntI (l.take k)+_:=filt_take (g:=fun y=>needB y&&newId y) hy
 rw[if_pos hn] at hcV
 have hmV:cntV (l.take (k+1))≤cntV l:=filt_mono
 have hmI:cntI (l.take (k+1))≤cntI l:=filt_mono
 obtain⟨hb1,hb2⟩:=hf2 om_
 have hid:=h.id
 have hver:=h.ver
 have hcN:chN (pubZ t e a v (l.take k)).1 y≤2305843009213693952∧(newId y=true→1≤chN (pubZ t e a v (l.take k)).1 y):=by
  unfold chN
  by_cases hni:newId y=true
  ·rw[if_pos hni]
   rw[if_pos (by rw[hn,hni];rfl)] at hcI
   exact⟨by omega,fun _=>by omega⟩
  ·rw[if_neg hni]
   exact⟨by omega,fun h8=>absurd h8 hni⟩
 have hm1:mayF (laidF y 1 1 e)=true:=by
  have h8:=hf1 y hmem
  unfold ftOne at h8
  rw[hn] at h8
  simp only[Bool.not_true,Bool.false_or,Bool.and_eq_true] at h8
  exact h8.1
 refine⟨may_ids hm1 ?_ ⟨by omega,by omega⟩,?_,by omega,hcN.1⟩
 ·unfold chId
  by_cases hni:newId y=true
  ·rw[if_pos hni]
   have h8:=hcN.2 hni
   have h9:=hcN.1
   unfold chN at h8 h9
   rw[if_pos hni] at h8 h9
   exact⟨h8,h9⟩
  ·rw[if_neg hni]
   have h8:=List.all_eq_true.1 hfd y hmem
   obtain⟨p',hp'⟩:=allPre_at l [] (by unfold shapeB at hsh;rw[Bool.and_eq_true] at hsh;exact hsh.2) y hmem
   unfold shOne kdOk at hp'
   have hhad:y.had=true:=by
    unfold newId at hni;unfold needB at hn
    simp only[Bool.or_eq_true,Bool.and_eq_true,decide_eq_true_eq,Bool.not_eq_true'] at hni hn hp'
    rcases hp'.1 with((h9|h9)|h9)|h9
    ·cases hh:y.had with
     |true=>rfl
     |false=>exact absurd (.inr ⟨h9,hh⟩) hni
    ·rcases hn with h10|h10
     ·exact absurd h9 (by simpa using h10)
     ·exact h10
    ·exact absurd (.inl h9) hni
    ·exact h9.2
   unfold fndB at h8
   by_cases hmp:mapB y=true
   ·rw[if_pos hmp,hhad] at h8
    simp only[Bool.and_eq_true,beq_iff_eq] at h8
    obtain⟨z,hz⟩:=Option.isSome_iff_exists.1 h8.1
    rw[hz] at h8
    simp at h8
    have:=hL z (List.mem_append.2 (.inl (tget_mem hz).1))
    rw[← h8];exact this
   ·rw[if_neg hmp] at h8
    have hk5:y.kind=5:=by
     unfold newId at hni;unfold mapB at hmp
     simp only[Bool.or_eq_true,Bool.and_eq_true,decide_eq_true_eq,Bool.not_eq_true'] at hni hmp hp'
     rcases hp'.1 with((h9|h9)|h9)|h9
     ·exact absurd (.inl h9) hmp
     ·exact absurd (.inr h9) hmp
     ·exact absurd (.inl h9) hni
     ·exact h9.1
    rw[if_pos hk5] at h8
    unfold fndQ at h8
    simp only[Bool.and_eq_true,decide_eq_true_eq] at h8
    obtain⟨z,hz⟩:=Option.isSome_iff_exists.1 h8.1
    rw[hz] at h8
    have:=hL z (List.mem_append.2 (.inr (List.mem_of_head? hz)))
    rw[← h8.2];exact this
 ·obtain⟨p',hp'⟩:=allPre_at l [] hhe y hmem
  unfold hdOne at hp'
  rw[hn] at hp'
  simp only[Bool.not_true,Bool.false_or,Bool.and_eq_true] at hp'
  have:=of_rng hp'.1.1.1
  omega
theorem pubZ_in {a:AS}{th n m f:Nat}(h:a.In th n m f)(hL:a.Ids){t e:Int}{v:Dev}{l:List Chg}(h0:pubE a t e l=0):∀k,k≤l.length→(pubZ t e a v (l.take k)).1.In th n (m+k) (f+k)
 |0,_=>h
 |k+1,hk=>by
  have h1:=pubZ_in h hL (v:=v) h0 k om_
  obtain⟨y,hy⟩:∃y,l[k]? =some y:=⟨l[k]'om_,by simp⟩
  rw[pubZ_up hy]
  by_cases hn:needB y=true
  ·rw[if_pos hn]
   obtain⟨_,_,h2,h3⟩:=pub_ok h hL (v:=v) h0 hy hn
   exact chA_in h1 t e _ y h2 h3
  ·rw[if_neg hn]
   exact h1.up om_ om_
theorem hp_start2 {sg:V.Sg}{w:World}(h:Sat sg w):Hp ⟨w,V.ids sg⟩ sg w:=V.Hp.start h
theorem kowed2_g (cb wb:Nat)(c:Ck)(th:Nat)(h4:th≤1000)(hk:c.Ok th):Mo Tryz.prog 215 [.pointer (some ⟨cb,0,none⟩)] (kS cb wb c) (fun o:V.OwnO=>ownOk 1 c.owed.length (c.owed.flatMap inI) o) (fun o=>ownV c.owed.length o) (fun o=>ownG 3 (c.owed.flatMap inI) o::kS cb wb c):=by
 intro w hs
 refine(kowed_g cb wb c th h4 hk w hs).mono fun e w' ⟨o,h1,h2,h3⟩=>⟨o,h1,h2,?_⟩
 have h8:=(hp_start2 hs).call (ss:=[]) .nil h3
 exact h8
theorem kowed3_g (cb wb:Nat)(k:Ckk)(c:Ck)(hk2:k=ckk cb c)(th:Nat)(h4:th≤1000)(hk:c.Ok th):Mo Tryz.prog 215 [.pointer (some ⟨cb,0,none⟩)] (ckS cb wb k) (fun o:V.OwnO=>ownOk 1 c.owed.length (c.owed.flatMap inI) o) (fun o=>ownV c.owed.length o) (fun o=>ownG 3 (c.owed.flatMap inI) o::ckS cb wb k):=by
 intro w hs
 subst hk2
 exact kowed2_g cb wb c th h4 hk w hs
theorem publish_g (x:ArR)(s:ArS)(th n m f:Nat)(a:AS)(xd:DvR)(v:Dev)(hA:ArOk th n x s)(hI:ArIs x s a)(hin:a.In th n m f)(hids:a.Ids)(hm:m≤890)(hf:f≤80000)(hth:1≤th∧th≤4)(hR:s.rg.R.length≤1900)(t e0:Int)(he:0≤e0∧e0≤4611686018427387904)(l:List Chg)(p:Option Addr)(c:Nat)(hl:l.length≤c∧l.length≤3)(hlen:∀y∈l,y.key.length≤3000∧y.val.length≤100000)(w:World)(hs:Sat (arS x s xd.db++vS xd v) w)(h:V.slAt w p 11 chC l)(hd:∀b o,p=some ⟨b,o,none⟩→b∉V.ids (arS x s xd.db++vS xd v)):Calls Tryz.prog 174 [.pointer (some ⟨x.a,0,none⟩),.int .i64 t,.int .u64 e0,.slice p l.length c].toArray w fun e w'=>∃z:ArS×V.OwnO,(ArOk th n x z.1∧ArIs x z.1 (pubA t e0 a v l).1∧z.1.rg.R.length≤max s.rg.R.length 1801∧ownOk 1 (if pubE a t e0 l=0 then(hitsF l).length else 0) ((if pubE a t e0 l=0 then hitsF l else[]).flatMap boC) z.2)∧e= .returned (.tuple #[ownV (if pubE a t e0 l=0 then(hitsF l).length else 0) z.2,.int .i64 (pubE a t e0 l)])∧Hp ⟨w,V.ids ((arS x s xd.db++vS xd v))⟩ ([ownG 4 ((if pubE a t e0 l=0 then hitsF l else[]).flatMap boC) z.2]++(arS x z.1 xd.db++vS xd (pubA t e0 a v l).2)) w':=by
 have hz:=hin.sz om_ om_
 have hck:s.ck=ckk x.cb a.ck:=hI.ck
 have hkS:kS x.cb x.wb a.ck=ckS x.cb x.wb s.ck:=by rw[hck]
 have hOw:a.ck.owed.length=th:=hin.ck.1
 have hHe:heldB s.L (tLinks s.Tz) (rgQ s.rg) s.bg l=heldB a.L (tLinks a.Tz) a.q a.bg l:=by rw[hI.L,hI.Tz,hI.q,hI.bg]
 have hFd:∀y,fndB s.Tz (rgQ s.rg) y=fndB a.Tz a.q y:=fun y=>by rw[hI.Tz,hI.q]
 have hFt:fitsF2 s.id s.ver e0 l=fitsF2 a.id a.ver e0 l:=by rw[hI.id,hI.ver]
 have hdA:∀b o,p=some ⟨b,o,none⟩→b∉V.ids (arS x s xd.db):=fun b o hp hin8=>hd b o hp (by unfold V.ids at hin8⊢;rw[List.flatten_append,List.map_append];exact List.mem_append.2 (.inl hin8))
 refine Cs_ (arS x s xd.db++vS xd v) Tryz.func174 rfl Tryz.ntmps174 hs<|pA_ 16 ?_
 refine LW.split (d:=24) rfl (fun h24=>?_) (fun h24=>?_)
 ·replace h24:=bT h24
  refine pA_ 26 ?_
  have e1:pubE a t e0 l=1:=if_pos (by rcases Classical.em (shapeB l=true) with h9|h9;(left;unfold inR;omega);(right;simpa using h9))
  have e2:pubA t e0 a v l=(a,v):=if_neg (by rw[e1];decide)
  rw[e1,e2,if_neg (by decide),if_neg (by decide)]
  intro w' hw;exact⟨(s,none),⟨hA,hI,Nat.le_max_left _ _,⟨rfl,rfl⟩⟩,rfl,(hw.pick (ss:=(arS x s xd.db++vS xd v)) pk_).perm (.refl _)⟩
 ·replace h24:=bF h24
  refine pA_ 4 ?_
  refine Lv (Ld (v:= .pointer (some ⟨x.cb,0,none⟩)))<|Le (Cm_ (kowed3_g x.cb x.wb s.ck a.ck hck th om_ hin.ck)) fun oO hoO=>Lv (Val.lenOwn rfl Tryz.underlying23 hoO)<|pA_ 3 ?_
  refine LW.split (d:=34) rfl (fun h34=>?_) (fun h34=>?_)
  ·replace h34:=bT h34
   refine pA_ 16 ?_
   have e1:pubE a t e0 l=1:=if_pos (by rcases Classical.em (shapeB l=true) with h9|h9;(left;unfold inR;omega);(right;simpa using h9))
   have e2:pubA t e0 a v l=(a,v):=if_neg (by rw[e1];decide)
   rw[e1,e2,if_neg (by decide),if_neg (by decide)]
   intro w' hw;exact⟨(s,none),⟨hA,hI,Nat.le_max_left _ _,⟨rfl,rfl⟩⟩,rfl,(hw.pick (ss:=(arS x s xd.db++vS xd v)) pk_).perm (.refl _)⟩
  ·replace h34:=bF h34
   refine Lv Mv<|Le (CV fun w hw=>shaped_c l p c ⟨hl.1,by omega⟩ w (hw.slAt h hd)) fun _ _=>Lv Nt<|LW.re 37 (.bool (!shapeB l)) rfl rfl<|pA_ 3 ?_
   refine Cd_ rfl (fun h38=>?_) fun h38=>?_
   ·refine pA_ 9 ?_
    have e1:pubE a t e0 l=1:=if_pos (.inr (by simpa using h38))
    have e2:pubA t e0 a v l=(a,v):=if_neg (by rw[e1];decide)
    rw[e1,e2,if_neg (by decide),if_neg (by decide)]
    intro w' hw;exact⟨(s,none),⟨hA,hI,Nat.le_max_left _ _,⟨rfl,rfl⟩⟩,rfl,(hw.pick (ss:=(arS x s xd.db++vS xd v)) pk_).perm (.refl _)⟩
   ·have hsh:shapeB l=true:=by simpa using h38
    have hc1:¬(¬inR a.ck.owed t∨shapeB l=false):=by
     rintro(h9|h9)
     ·apply h9;unfold inR;omega
     ·rw[hsh] at h9;cases h9
    refine pA_ 8 ?_
    refine Lv (Ld (v:= .pointer (some ⟨x.cb,0,none⟩)))<|Le (CV fun w hw=>know_g x.cb x.wb a.ck w (by have h8:=hw.sat.pick (ss:=ckS x.cb x.wb s.ck) pk_;rw[hck] at h8;exact h8)) fun _ _=>pA_ 4 ?_
    refine Cd_ rfl (fun h45=>?_) fun h45=>?_
    ·have h45:a.ck.now≠e0:=h45
     refine pA_ 9 ?_
     have e1:pubE a t e0 l=8:=(if_neg hc1).trans (if_pos h45)
     have e2:pubA t e0 a v l=(a,v):=if_neg (by rw[e1];decide)
     rw[e1,e2,if_neg (by decide),if_neg (by decide)]
     intro w' hw;exact⟨(s,none),⟨hA,hI,Nat.le_max_left _ _,⟨rfl,rfl⟩⟩,rfl,(hw.pick (ss:=(arS x s xd.db++vS xd v)) pk_).perm (.refl _)⟩
    ·have hc2:¬a.ck.now≠e0:=fun h9=>h9 h45
     refine pA_ 11 ?_
     refine loopA (γ:=Nat) (fun k=>[(0,.pointer (some ⟨x.a,0,none⟩)),(1,.int .i64 t),(2,.int .u64 e0),(3,.slice p l.length c),(46,.slice p l.length c),(47,.int .i64 (l.length:Nat)),(48,.int .i64 (k:Nat))]) (fun k=>(arS x s xd.db++vS xd v)) (fun k=>k≤l.length∧(l.take k).all (fndB a.Tz a.q)=true) (fun k=>l.length-k) (0) ⟨Nat.zero_le _,rfl⟩ fun k=>?_
     rintro⟨hk1,hk2⟩
     refine pA_ 6 ?_
     refine Cd_ rfl (fun h49=>?_) fun h49=>?_
     ·obtain⟨b1,o1,y,rfl,hb1,hy1,hr1⟩:=V.slAt_at h rfl (k:=k) om_
      have hnf:=hd b1 _ rfl
      refine pA_ 6 ?_
      refine Lv (Val.indexAddrN (i:=k) rfl rfl Tryz.underlying286 Tryz.sizeOf285 om_)<|Lv (Val.loadOA (cs:=chC y) rfl Tryz.isAgg285 hb1 hnf (hr1 (k) _ hy1) Tryz.sizeOf285)<|Le AA fun b11 _=>LeN (StW (cs:=chC y)) fun _ _=>pA_ 5 ?_
      refine Lv (Lw (l:=chC y))<|Le (CV fun w hw=>(afound_g x s xd.db th n hA y (by have:=hlen y (List.mem_of_getElem? hy1);omega) w (hw.sat.pick (ss:=arS x s xd.db) pk_))) fun _ _=>pA_ 3 ?_
      refine Cd_ rfl (fun h55=>?_) fun h55=>?_
      ·refine pA_ 13 ?_
       have e1:pubE a t e0 l=8:=(if_neg hc1).trans ((if_neg hc2).trans (if_pos (List.all_eq_false.2 ⟨y,List.mem_of_getElem? hy1,by rw[← hFd];simpa using h55⟩)))
       have e2:pubA t e0 a v l=(a,v):=if_neg (by rw[e1];decide)
       rw[e1,e2,if_neg (by decide),if_neg (by decide)]
       intro w' hw;exact⟨(s,none),⟨hA,hI,Nat.le_max_left _ _,⟨rfl,rfl⟩⟩,rfl,(hw.pick (ss:=(arS x s xd.db++vS xd v)) pk_).perm (.refl _)⟩
      ·refine pA_ 7 ?_
       exact roundA (k+1) ⟨by omega,by rw[all_take hy1,hk2,Bool.true_and,← hFd];simpa using h55⟩ om_
     ·have hc3:l.all (fndB a.Tz a.q)=true:=by rw[List.take_of_length_le om_] at hk2;exact hk2
      refine pA_ 10 ?_
      refine Le (CV fun w hw=>held_g x s xd.db th n hA (by rw[hI.Tz];exact hz.st) (by rw[hI.Tz];have:=hz.t;omega) (by rw[hI.q];have:=hz.q;omega) (by rw[hI.bg];have:=hz.b;omega) l p c ⟨hl.1,by omega⟩ w (hw.sat.pick (ss:=arS x s xd.db) pk_) (hw.slAt h hd) hdA) fun _ _=>pA_ 3 ?_
      refine Cd_ rfl (fun h60=>?_) fun h60=>?_
      ·refine pA_ 9 ?_
       have e1:pubE a t e0 l=1:=(if_neg hc1).trans ((if_neg hc2).trans ((if_neg (by rw[hc3];decide)).trans (if_pos (by rw[← hHe];simpa using h60))))
       have e2:pubA t e0 a v l=(a,v):=if_neg (by rw[e1];decide)
       rw[e1,e2,if_neg (by decide),if_neg (by decide)]
       intro w' hw;exact⟨(s,none),⟨hA,hI,Nat.le_max_left _ _,⟨rfl,rfl⟩⟩,rfl,(hw.pick (ss:=(arS x s xd.db++vS xd v)) pk_).perm (.refl _)⟩
      ·have hc4:heldB a.L (tLinks a.Tz) a.q a.bg l=true:=by rw[← hHe];simpa using h60
       refine pA_ 8 ?_
       refine Le (CV fun w hw=>fits_g x s xd.db l p c ⟨hl.1,by omega⟩ hlen (by rw[hI.id,hI.ver];have:=hz.id;have:=hz.ver;omega) e0 he w (hw.sat.pick (ss:=arS x s xd.db) pk_) (hw.slAt h hd) hdA) fun _ _=>LW.re 64 (.int .i64 (fitsF2 a.id a.ver e0 l)) rfl (by rw[hFt])<|pA_ 9 ?_
       refine Cd_ rfl (fun h66=>?_) fun h66=>?_
       ·have h66:¬fitsF2 a.id a.ver e0 l=0:=h66
        refine pA_ 10 ?_
        have e1:pubE a t e0 l=fitsF2 a.id a.ver e0 l:=(if_neg hc1).trans ((if_neg hc2).trans ((if_neg (by rw[hc3];decide)).trans (if_neg (by rw[hc4];decide))))
        have e2:pubA t e0 a v l=(a,v):=if_neg (by rw[e1];exact h66)
        rw[e1,e2,if_neg (by exact h66),if_neg (by exact h66)]
        intro w' hw;exact⟨(s,none),⟨hA,hI,Nat.le_max_left _ _,⟨rfl,rfl⟩⟩,rfl,(hw.pick (ss:=(arS x s xd.db++vS xd v)) pk_).perm (.refl _)⟩
       ·have h66:fitsF2 a.id a.ver e0 l=0:=h66
        have hpub:pubE a t e0 l=0:=(if_neg hc1).trans ((if_neg hc2).trans ((if_neg (by rw[hc3];decide)).trans ((if_neg (by rw[hc4];decide)).trans h66)))
        refine pA_ 21 ?_
        refine V.CW.perm (sg':=ownG 4 (([]:List Bool).flatMap boC) none::(arS x s xd.db++vS xd v)) ?_ (.refl _)
        refine loopA (γ:=Nat×ArS×V.OwnO) (fun k=>[(0,.pointer (some ⟨x.a,0,none⟩)),(1,.int .i64 t),(2,.int .u64 e0),(3,.slice p l.length c),(13,ownV k.1 k.2.2),(14,.int .u64 (pubZ t e0 a v (l.take k.1)).2.2),(68,.slice p l.length c),(69,.int .i64 (l.length:Nat)),(70,.int .i64 (k.1:Nat))]) (fun k=>ownG 4 ((hitsF (l.take k.1)).flatMap boC) k.2.2::(arS x k.2.1 xd.db++vS xd (pubZ t e0 a v (l.take k.1)).2.1)) (fun k=>k.1≤l.length∧ArOk th n x k.2.1∧ArIs x k.2.1 (pubZ t e0 a v (l.take k.1)).1∧k.2.1.rg.R.length≤max s.rg.R.length 1801∧ownOk 1 k.1 ((hitsF (l.take k.1)).flatMap boC) k.2.2) (fun k=>l.length-k.1) ((0,s,none)) ⟨Nat.zero_le _,hA,hI,Nat.le_max_left _ _,⟨rfl,rfl⟩⟩ fun k=>?_
        rintro⟨hk1,hk2,hk3,hk4,hk5⟩
        refine pA_ 6 ?_
        refine Cd_ rfl (fun h71=>?_) fun h71=>?_
        ·obtain⟨b1,o1,y,rfl,hb1,hy1,hr1⟩:=V.slAt_at h rfl (k:=k.1) om_
         have hnf:=hd b1 _ rfl
         have hyl:=hlen y (List.mem_of_getElem? hy1)
         refine pA_ 6 ?_
         refine Lv (Val.indexAddrN (i:=k.1) rfl rfl Tryz.underlying286 Tryz.sizeOf285 om_)<|Lv (Val.loadOA (cs:=chC y) rfl Tryz.isAgg285 hb1 hnf (hr1 (k.1) _ hy1) Tryz.sizeOf285)<|Le AA fun b16 _=>LeN (StW (cs:=chC y)) fun _ _=>pA_ 3 ?_
         refine CW.regJoin (fun o2:V.OwnO=>ownOk 1 (k.1+1) ((hitsF (l.take (k.1+1))).flatMap boC) o2) (fun o2=>[(0,.pointer (some ⟨x.a,0,none⟩)),(1,.int .i64 t),(2,.int .u64 e0),(3,.slice (some ⟨b1,o1,none⟩) l.length c),(13,ownV (k.1+1) o2),(14,.int .u64 (pubZ t e0 a v (l.take k.1)).2.2),(16,.pointer (some ⟨b16,0,none⟩)),(68,.slice (some ⟨b1,o1,none⟩) l.length c),(69,.int .i64 (l.length:Nat)),(70,.int .i64 (k.1:Nat))]) (fun o2=>ownG 4 ((hitsF (l.take (k.1+1))).flatMap boC) o2::[(b16,.cells (chC y).toArray 285 (0,0))]::(arS x k.2.1 xd.db++vS xd (pubZ t e0 a v (l.take k.1)).2.1)) ?_ ?_
         ·refine pA_ 3 ?_
          refine Lv (Ld (v:= .bool y.had))<|Lv Mv ?_
          refine LW.split (d:=77) rfl (fun h77=>?_) (fun h77=>?_)
          ·replace h77:=bT h77
           refine Lv (Fa 0 3)<|Lv (Ld (v:= .int .i64 y.kind))<|Lv Cm<|Lv Pt<|LW.re 81 (.bool (chOut y)) rfl (by unfold chOut;rw[h77];rfl)<|Le (Eff.buildSlice (rfl) [_] Tryz.underlying81 Tryz.sizeOf4 (by exact Tryz.zeroValue4) rfl rfl rfl rfl (by rfl)) fun b82 _=>Le (Eff.appendAny (boC (chOut y)) (sz:=1) (bytes:=1) (z:= .bool false) (xs:=(hitsF (l.take k.1)).flatMap boC) (m0:=k.1) (o:=k.2.2) (m:=1) (pk:=[ownG 4 ((hitsF (l.take k.1)).flatMap boC) (k.2.2)]) rfl rfl Tryz.underlying81 kr_ rfl om_ pk_ (by simp) hk5 (by rfl) (fun hm0=>⟨b82,0,rfl,fun w hw=>V.range_of_block (o:=0) (cs:=boC (chOut y)) (r:=[]) (hw.own _ (show InS (b82,.cells (boC (chOut y)).toArray 4 (0,0)) _ from in_).mem) rfl⟩) (by rfl) om_ om_) fun o2 ho2=>?_
           rw[show(hitsF (l.take k.1)).flatMap boC++boC (chOut y)=(hitsF (l.take (k.1+1))).flatMap boC by unfold hitsF;rw[List.take_add_one,hy1];simp] at ho2⊢
           refine Lv Av<|Nl ?_
           exact joinA (o2) (ho2)
          ·replace h77:=bF h77
           refine Lp<|Lp<|Lp<|Lv Pf<|LW.re 81 (.bool (chOut y)) rfl (by unfold chOut;rw[h77];rfl)<|Le (Eff.buildSlice (rfl) [_] Tryz.underlying81 Tryz.sizeOf4 (by exact Tryz.zeroValue4) rfl rfl rfl rfl (by rfl)) fun b82 _=>Le (Eff.appendAny (boC (chOut y)) (sz:=1) (bytes:=1) (z:= .bool false) (xs:=(hitsF (l.take k.1)).flatMap boC) (m0:=k.1) (o:=k.2.2) (m:=1) (pk:=[ownG 4 ((hitsF (l.take k.1)).flatMap boC) (k.2.2)]) rfl rfl Tryz.underlying81 kr_ rfl om_ pk_ (by simp) hk5 (by rfl) (fun hm0=>⟨b82,0,rfl,fun w hw=>V.range_of_block (o:=0) (cs:=boC (chOut y)) (r:=[]) (hw.own _ (show InS (b82,.cells (boC (chOut y)).toArray 4 (0,0)) _ from in_).mem) rfl⟩) (by rfl) om_ om_) fun o2 ho2=>?_
           rw[show(hitsF (l.take k.1)).flatMap boC++boC (chOut y)=(hitsF (l.take (k.1+1))).flatMap boC by unfold hitsF;rw[List.take_add_one,hy1];simp] at ho2⊢
           refine Lv Av<|Nl ?_
           exact joinA (o2) (ho2)
         ·intro o2 ho2
          refine pA_ 3 ?_
          refine Lv (Lw (l:=chC y))<|Le (Cz_ (needs_c y)) fun _ _=>Nl<|Ps ?_
          refine Cd_ rfl (fun h85=>?_) fun h85=>?_
          ·have hn:needB y=true:=h85
           have hok:=pub_ok hin hids (v:=v) hpub hy1 hn
           refine pA_ 5 ?_
           refine Lv (Lw (l:=chC y))<|Lv Mv<|Le (Cm_ (change_g x k.2.1 th n (pubZ t e0 a v (l.take k.1)).1 xd (pubZ t e0 a v (l.take k.1)).2.1 hk2 hk3 ((pubZ_in hin hids (v:=v) hpub k.1 om_).sz om_ om_) om_ t e0 (pubZ t e0 a v (l.take k.1)).2.2 y hok.1 hyl hok.2.1)) fun s2 hs2=>pA_ 9 ?_
           refine Cd_ rfl (fun h93=>?_) fun h93=>?_
           ·have h93:(pubZ t e0 a v (l.take k.1)).2.2=0:=h93
            refine pA_ 10 ?_
            have e3:=pubZ_up (t:=t) (e:=e0) (a:=a) (v:=v) hy1
            rw[if_pos hn] at e3
            have e4:(pubZ t e0 a v (l.take (k.1+1))).1=chA t e0 (pubZ t e0 a v (l.take k.1)).1 y (pubZ t e0 a v (l.take k.1)).2.2:=by rw[e3]
            have e5:(pubZ t e0 a v (l.take (k.1+1))).2.1=chDev e0 (pubZ t e0 a v (l.take k.1)).1 (pubZ t e0 a v (l.take k.1)).2.1 y:=by rw[e3]
            have e6:(pubZ t e0 a v (l.take (k.1+1))).2.2=(pubZ t e0 a v (l.take k.1)).1.ver+1:=by rw[e3];exact if_pos h93
            rw[← e5]
            refine PQ.round ((k.1+1,s2,o2)) ⟨by simp only;omega,hs2.1,by simp only;rw[e4];exact hs2.2.1,by have:=hs2.2.2;simp only;omega,ho2⟩ (by simp only;omega) (by exact⟨rfl,rfl,rfl,rfl,rfl,congrArg (fun z=>some (Value.int .u64 z)) e6.symm,rfl,rfl,rfl,trivial⟩) pk_
           ·have h93:¬(pubZ t e0 a v (l.take k.1)).2.2=0:=h93
            refine pA_ 7 ?_
            have e3:=pubZ_up (t:=t) (e:=e0) (a:=a) (v:=v) hy1
            rw[if_pos hn] at e3
            have e4:(pubZ t e0 a v (l.take (k.1+1))).1=chA t e0 (pubZ t e0 a v (l.take k.1)).1 y (pubZ t e0 a v (l.take k.1)).2.2:=by rw[e3]
            have e5:(pubZ t e0 a v (l.take (k.1+1))).2.1=chDev e0 (pubZ t e0 a v (l.take k.1)).1 (pubZ t e0 a v (l.take k.1)).2.1 y:=by rw[e3]
            have e6:(pubZ t e0 a v (l.take (k.1+1))).2.2=(pubZ t e0 a v (l.take k.1)).2.2:=by rw[e3];exact if_neg h93
            rw[← e5]
            refine PQ.round ((k.1+1,s2,o2)) ⟨by simp only;omega,hs2.1,by simp only;rw[e4];exact hs2.2.1,by have:=hs2.2.2;simp only;omega,ho2⟩ (by simp only;omega) (by exact⟨rfl,rfl,rfl,rfl,rfl,congrArg (fun z=>some (Value.int .u64 z)) e6.symm,rfl,rfl,rfl,trivial⟩) pk_
          ·have h85:needB y=false:=h85
           refine pA_ 7 ?_
           have e3:=pubZ_up (t:=t) (e:=e0) (a:=a) (v:=v) hy1
           rw[if_neg (by rw[h85];decide)] at e3
           rw[← e3]
           refine PQ.round ((k.1+1,k.2.1,o2)) ⟨by simp only;omega,hk2,by simp only;rw[e3];exact hk3,hk4,ho2⟩ (by simp only;omega) (by exact⟨rfl,rfl,rfl,rfl,rfl,rfl,rfl,rfl,rfl,trivial⟩) pk_
        ·refine pA_ 14 ?_
         obtain⟨k1,s9,o9⟩:=k
         have hke:k1=l.length:=by simp only at hk1 h71;omega
         subst hke
         simp only at hk2 hk3 hk4 hk5
         have e0z:pubE a t e0 l=0:=hpub
         have e2:pubA t e0 a v l=((pubZ t e0 a v l).1,(pubZ t e0 a v l).2.1):=if_pos hpub
         simp only[List.take_length] at hk2 hk3 hk4 hk5⊢
         rw[e0z,e2,if_pos rfl,if_pos rfl]
         have ehl:(hitsF l).length=l.length:=by unfold hitsF;rw[List.length_map]
         rw[ehl]
         exact fi_ (s9,o9) ⟨hk2,hk3,hk4,hk5⟩
end
section
attribute [local irreducible] V.CW V.LW V.QW V.RW V.PQ V.Val V.Eff V.Qcall
open V (str byC ownV ownG ownS ownOk)
theorem giveF_len (L:List Slb)(line:Int):(giveF L line).1.length=L.length:=by
 unfold giveF
 split
 ·rfl
 ·split
  ·simp
  ·rfl
end
section
attribute [local irreducible] V.CW V.LW V.QW V.RW V.PQ V.Val V.Eff V.Qcall
open V (str byC ownV ownG ownS ownOk)
instance:Und Tryz.prog 22 (dOf Tryz.underlying22):=⟨Tryz.underlying22⟩
instance:Siz Tryz.prog 22 (kOf Tryz.sizeOf22):=⟨Tryz.sizeOf22⟩
instance:AgF Tryz.prog 22:=⟨Tryz.isAgg22⟩
instance:Und Tryz.prog 79 (dOf Tryz.underlying79):=⟨Tryz.underlying79⟩
instance:Siz Tryz.prog 79 (kOf Tryz.sizeOf79):=⟨Tryz.sizeOf79⟩
instance:AgT Tryz.prog 79:=⟨Tryz.isAgg79⟩
instance:Zer Tryz.prog 79 (zOf Tryz.zeroValue79):=⟨Tryz.zeroValue79⟩
instance:Und Tryz.prog 83 (dOf Tryz.underlying83):=⟨Tryz.underlying83⟩
instance:Siz Tryz.prog 83 (kOf Tryz.sizeOf83):=⟨Tryz.sizeOf83⟩
instance:AgT Tryz.prog 83:=⟨Tryz.isAgg83⟩
instance:Zer Tryz.prog 83 (zOf Tryz.zeroValue83):=⟨Tryz.zeroValue83⟩
instance:Siz Tryz.prog 157 (kOf Tryz.sizeOf157):=⟨Tryz.sizeOf157⟩
instance:AgF Tryz.prog 157:=⟨Tryz.isAgg157⟩
instance:Cal Tryz.prog 86:=⟨Tryz.call86⟩
instance:Cal Tryz.prog 114:=⟨Tryz.call114⟩
instance:Cal Tryz.prog 162:=⟨Tryz.call162⟩
instance:Cal Tryz.prog 163:=⟨Tryz.call163⟩
theorem oneS (l:List UInt8):(str l).oneCell'=true:=rfl
structure Kal where
 k:Int
 key:List UInt8
 val:List UInt8
 to:List UInt8
 deriving DecidableEq
def kal0:Kal:=⟨0,[],[],[]⟩
abbrev Kz:=Kal×Option Addr×Nat
def kz0:Kz:=(kal0,none,0)
def kzC (z:Kz):List Value:=[.int .i64 z.1.k,str z.1.key,str z.1.val,str z.1.to,.slice z.2.1 0 z.2.2]
theorem kzC_len (z:Kz):(kzC z).length=5:=rfl
def klC (c:Kal)(g:Value):List Value:=[.int .i64 c.k,str c.key,str c.val,str c.to,g]
structure Prt where
 had:Bool
 old:Lk
 line:Int
 cls:Int
 deriving DecidableEq
def pt0:Prt:=⟨false,lk0,0,0⟩
def ptC (p:Prt):List Value:= .bool p.had::(lkC p.old++[.int .i64 p.line,.int .i64 p.cls])
theorem ptC_len (p:Prt):(ptC p).length=8:=rfl
structure Ans where
 code:Int
 fd:Bool
 val:List UInt8
 ps:List (List UInt8×List UInt8)
 hs:List Bool
 ep:Int
 deriving DecidableEq
def an0:Ans:=⟨0,false,[],[],[],0⟩
def anC (a:Ans)(so ho:V.OwnO):List Value:=[.int .i64 a.code,.bool a.fd,str a.val,ownV a.ps.length so,ownV a.hs.length ho,.int .u64 a.ep]
structure Frm where
 c:Kal
 g:List Kal
 ph:Int
 ep:Int
 pos:List UInt8
 past:Bool
 lev:Int
 had:Bool
 old:Lk
 line:Int
 cls:Int
 pc:Int
 bs:List UInt8
 at_:Int
 pa:List Prt
 an:Ans
 deriving DecidableEq
def fr0:Frm:=⟨kal0,[],0,0,[],false,0,false,lk0,0,0,0,[],0,[],an0⟩
structure FrO where
 gz:List Kz
 go:V.OwnO
 bo:V.OwnO
 po:V.OwnO
 so:V.OwnO
 ho:V.OwnO
def fo0:FrO:=⟨[],none,none,none,none,none⟩
def frC (f:Frm)(o:FrO):List Value:=klC f.c (ownV f.g.length o.go)++([.int .i64 f.ph,.int .u64 f.ep,str f.pos,.bool f.past,.int .i64 f.lev,.bool f.had]++(lkC f.old++([.int .i64 f.line,.int .i64 f.cls,.int .i64 f.pc,ownV f.bs.length o.bo,.int .i64 f.at_,ownV f.pa.length o.po]++anC f.an o.so o.ho)))
structure FrOk (f:Frm)(o:FrO):Prop where
 gz:o.gz.map Prod.fst=f.g
 go:ownOk 5 o.gz.length (o.gz.flatMap kzC) o.go
 bo:ownOk 1 f.bs.length (byC f.bs) o.bo
 po:ownOk 8 f.pa.length (f.pa.flatMap ptC) o.po
 so:ownOk 2 f.an.ps.length (f.an.ps.flatMap prC) o.so
 ho:ownOk 1 f.an.hs.length (f.an.hs.flatMap boC) o.ho
abbrev anS (a:Ans)(so ho:V.OwnO):Sg:=[ownG 112 (a.ps.flatMap prC) so,ownG 4 (a.hs.flatMap boC) ho]
abbrev frS (f:Frm)(o:FrO):Sg:=ownG 79 (o.gz.flatMap kzC) o.go::ownG 5 (byC f.bs) o.bo::ownG 237 (f.pa.flatMap ptC) o.po::anS f.an o.so o.ho
theorem FrOk.gl {f:Frm}{o:FrO}(h:FrOk f o):o.gz.length=f.g.length:=by rw[← h.gz,List.length_map]
theorem kz_one (l:List Kz):(l.flatMap kzC).all (·.oneCell')=true:=by
 induction l with
 |nil=>rfl
 |cons f r ih=>rw[List.flatMap_cons,List.all_append,ih];rfl
theorem pt_one (l:List Prt):(l.flatMap ptC).all (·.oneCell')=true:=by
 induction l with
 |nil=>rfl
 |cons f r ih=>rw[List.flatMap_cons,List.all_append,ih];rfl
theorem pr_one (l:List (List UInt8×List UInt8)):(l.flatMap prC).all (·.oneCell')=true:=by
 induction l with
 |nil=>rfl
 |cons f r ih=>rw[List.flatMap_cons,List.all_append,ih];rfl
theorem bo_one (l:List Bool):(l.flatMap boC).all (·.oneCell')=true:=by
 induction l with
 |nil=>rfl
 |cons f r ih=>rw[List.flatMap_cons,List.all_append,ih];rfl
theorem cloneKz_c (l:List Kz)(p:Option Addr)(c:Nat)(hl:l.length≤3000)(w:World)(h:V.slAt w p 5 kzC l):Calls Tryz.prog 86 [.slice p l.length c].toArray w fun e w'=>∃o:V.OwnO,ownOk 5 l.length (l.flatMap kzC) o∧e= .returned (ownV l.length o)∧Hp ⟨w,[]⟩ [ownG 79 (l.flatMap kzC) o] w':=by
 haveI:Inhabited Kz:=⟨kz0⟩
 refine Cb_ Tryz.func86 rfl Tryz.ntmps86<|pA_ 9 ?_
 refine Lv (Val.eqSlNil rfl rfl Tryz.underlying22)<|Nl<|Ps ?_
 refine Cd_ rfl (fun h4=>?_) fun h4=>?_
 ·have hpn:p=none:=by cases p with|none=>rfl|some q=>simp at h4
  obtain rfl:l=[]:=by
   rcases h with h|⟨b,o,h,_⟩
   ·exact h
   ·rw[hpn] at h;cases h
  refine pA_ 8 ?_
  intro w' hw;exact⟨none,⟨rfl,rfl⟩,rfl,hw.perm (.refl _)⟩
 ·refine pA_ 4 ?_
  refine Le (Eff.buildSlice0 Tryz.underlying22 Tryz.sizeOf79) fun b5 _=>Lv Mv<|Le (Eff.appendAny (l.flatMap kzC) (sz:=5) (bytes:=80) (z:= .agg #[.int .i64 0,.string ⟨#[]⟩,.string ⟨#[]⟩,.string ⟨#[]⟩,.slice none 0 0]) (xs:=[]) (m0:=0) (o:=some (b5,[],0)) (m:=l.length) (pk:=[ownG 79 [] (some (b5,[],0))]) rfl rfl Tryz.underlying22 kr_ rfl om_ pk_ (by simp) ⟨rfl,rfl⟩ (V.flatMap_len kzC_len _) (fun hm0=>by obtain⟨b8,o8,h8,h9⟩:=sl_range (F:=[]) kzC_len h hm0 (by simp);exact⟨b8,o8,h8,fun w1 hw1=>h9 w1 hw1⟩) (kz_one l) om_ om_) fun o2 ho2=>?_
  have h2:ownOk 5 l.length (l.flatMap kzC) o2:=by simpa using ho2
  rw[List.nil_append,Nat.zero_add]
  refine pA_ 5 ?_
  exact fi_ o2 h2
theorem clonePt_c (l:List Prt)(p:Option Addr)(c:Nat)(hl:l.length≤1000)(w:World)(h:V.slAt w p 8 ptC l):Calls Tryz.prog 116 [.slice p l.length c].toArray w fun e w'=>∃o:V.OwnO,ownOk 8 l.length (l.flatMap ptC) o∧e= .returned (ownV l.length o)∧Hp ⟨w,[]⟩ [ownG 237 (l.flatMap ptC) o] w':=by
 haveI:Inhabited Prt:=⟨pt0⟩
 refine Cb_ Tryz.func116 rfl Tryz.ntmps116<|pA_ 9 ?_
 refine Lv (Val.eqSlNil rfl rfl Tryz.underlying157)<|Nl<|Ps ?_
 refine Cd_ rfl (fun h4=>?_) fun h4=>?_
 ·have hpn:p=none:=by cases p with|none=>rfl|some q=>simp at h4
  obtain rfl:l=[]:=by
   rcases h with h|⟨b,o,h,_⟩
   ·exact h
   ·rw[hpn] at h;cases h
  refine pA_ 8 ?_
  intro w' hw;exact⟨none,⟨rfl,rfl⟩,rfl,hw.perm (.refl _)⟩
 ·refine pA_ 4 ?_
  refine Le (Eff.buildSlice0 Tryz.underlying157 Tryz.sizeOf237) fun b5 _=>Lv Mv<|Le (Eff.appendAny (l.flatMap ptC) (sz:=8) (bytes:=72) (z:= .agg #[.bool false,.string ⟨#[]⟩,.int .u64 0,.int .u64 0,.int .i64 0,.int .i64 0,.int .i64 0,.int .i64 0]) (xs:=[]) (m0:=0) (o:=some (b5,[],0)) (m:=l.length) (pk:=[ownG 237 [] (some (b5,[],0))]) rfl rfl Tryz.underlying157 kr_ rfl om_ pk_ (by simp) ⟨rfl,rfl⟩ (V.flatMap_len ptC_len _) (fun hm0=>by obtain⟨b8,o8,h8,h9⟩:=sl_range (F:=[]) ptC_len h hm0 (by simp);exact⟨b8,o8,h8,fun w1 hw1=>h9 w1 hw1⟩) (pt_one l) om_ om_) fun o2 ho2=>?_
  have h2:ownOk 8 l.length (l.flatMap ptC) o2:=by simpa using ho2
  rw[List.nil_append,Nat.zero_add]
  refine pA_ 5 ?_
  exact fi_ o2 h2
theorem clonePr_c (l:List (List UInt8×List UInt8))(p:Option Addr)(c:Nat)(hl:l.length≤100000)(w:World)(h:V.slAt w p 2 prC l):Calls Tryz.prog 162 [.slice p l.length c].toArray w fun e w'=>∃o:V.OwnO,ownOk 2 l.length (l.flatMap prC) o∧e= .returned (ownV l.length o)∧Hp ⟨w,[]⟩ [ownG 112 (l.flatMap prC) o] w':=by
 haveI:Inhabited (List UInt8×List UInt8):=⟨([],[])⟩
 refine Cb_ Tryz.func162 rfl Tryz.ntmps162<|pA_ 9 ?_
 refine Lv (Val.eqSlNil rfl rfl Tryz.underlying37)<|Nl<|Ps ?_
 refine Cd_ rfl (fun h4=>?_) fun h4=>?_
 ·have hpn:p=none:=by cases p with|none=>rfl|some q=>simp at h4
  obtain rfl:l=[]:=by
   rcases h with h|⟨b,o,h,_⟩
   ·exact h
   ·rw[hpn] at h;cases h
  refine pA_ 8 ?_
  intro w' hw;exact⟨none,⟨rfl,rfl⟩,rfl,hw.perm (.refl _)⟩
 ·refine pA_ 4 ?_
  refine Le (Eff.buildSlice0 Tryz.underlying37 Tryz.sizeOf112) fun b5 _=>Lv Mv<|Le (Eff.appendAny (l.flatMap prC) (sz:=2) (bytes:=32) (z:= .agg #[.string ⟨#[]⟩,.string ⟨#[]⟩]) (xs:=[]) (m0:=0) (o:=some (b5,[],0)) (m:=l.length) (pk:=[ownG 112 [] (some (b5,[],0))]) rfl rfl Tryz.underlying37 kr_ rfl om_ pk_ (by simp) ⟨rfl,rfl⟩ (V.flatMap_len prC_len _) (fun hm0=>by obtain⟨b8,o8,h8,h9⟩:=sl_range (F:=[]) prC_len h hm0 (by simp);exact⟨b8,o8,h8,fun w1 hw1=>h9 w1 hw1⟩) (pr_one l) om_ om_) fun o2 ho2=>?_
  have h2:ownOk 2 l.length (l.flatMap prC) o2:=by simpa using ho2
  rw[List.nil_append,Nat.zero_add]
  refine pA_ 5 ?_
  exact fi_ o2 h2
theorem cloneBo_c (l:List Bool)(p:Option Addr)(c:Nat)(hl:l.length≤100000)(w:World)(h:V.slAt w p 1 boC l):Calls Tryz.prog 163 [.slice p l.length c].toArray w fun e w'=>∃o:V.OwnO,ownOk 1 l.length (l.flatMap boC) o∧e= .returned (ownV l.length o)∧Hp ⟨w,[]⟩ [ownG 4 (l.flatMap boC) o] w':=by
 haveI:Inhabited Bool:=⟨false⟩
 refine Cb_ Tryz.func163 rfl Tryz.ntmps163<|pA_ 9 ?_
 refine Lv (Val.eqSlNil rfl rfl Tryz.underlying81)<|Nl<|Ps ?_
 refine Cd_ rfl (fun h4=>?_) fun h4=>?_
 ·have hpn:p=none:=by cases p with|none=>rfl|some q=>simp at h4
  obtain rfl:l=[]:=by
   rcases h with h|⟨b,o,h,_⟩
   ·exact h
   ·rw[hpn] at h;cases h
  refine pA_ 8 ?_
  intro w' hw;exact⟨none,⟨rfl,rfl⟩,rfl,hw.perm (.refl _)⟩
 ·refine pA_ 4 ?_
  refine Le (Eff.buildSlice0 Tryz.underlying81 Tryz.sizeOf4) fun b5 _=>Lv Mv<|Le (Eff.appendAny (l.flatMap boC) (sz:=1) (bytes:=1) (z:= .bool false) (xs:=[]) (m0:=0) (o:=some (b5,[],0)) (m:=l.length) (pk:=[ownG 4 [] (some (b5,[],0))]) rfl rfl Tryz.underlying81 kr_ rfl om_ pk_ (by simp) ⟨rfl,rfl⟩ (V.flatMap_len boC_len _) (fun hm0=>by obtain⟨b8,o8,h8,h9⟩:=sl_range (F:=[]) boC_len h hm0 (by simp);exact⟨b8,o8,h8,fun w1 hw1=>h9 w1 hw1⟩) (bo_one l) om_ om_) fun o2 ho2=>?_
  have h2:ownOk 1 l.length (l.flatMap boC) o2:=by simpa using ho2
  rw[List.nil_append,Nat.zero_add]
  refine pA_ 5 ?_
  exact fi_ o2 h2
theorem fcall0_g (c:Kal)(gp:Option Addr)(gc:Nat)(w:World):Calls Tryz.prog 114 [.agg (kzC (c,gp,gc)).toArray].toArray w fun e w'=>∃z:Option Addr×Nat,True∧e= .returned (.agg (kzC (c,z)).toArray)∧Below w.heap.size w w':=by
 refine Cb_ Tryz.func114 rfl Tryz.ntmps114<|Sq<|Rg<|Le XA fun b1 _=>Le AA fun b2 _=>pA_ 5 ?_
 refine Lv (Ld (v:= .slice gp 0 gc))<|Le (CM [] fun w hw hs=>cloneKz_c [] gp gc (by simp) w (.inl rfl)) fun o ho=>?_
 obtain⟨z1,z2,hz⟩:∃z1 z2,ownV ([]:List Kz).length o= .slice z1 0 z2:=by
  rcases o with _|⟨g,r,cp⟩
  ·exact⟨none,0,rfl⟩
  ·exact⟨some ⟨g,0,none⟩,cp,rfl⟩
 refine LW.re 7 (.slice z1 0 z2) rfl hz<|Lv (Fa 4 22)<|LeN StS fun _ _=>Nl<|Ps<|Sq<|Sq<|Rg<|Lv (Fa 4 22)<|Lv (Ld (v:= .slice z1 0 z2))<|Lv Ln<|Lv Mv<|Nl<|Ps<|Bk<|CW.loopU 0<|Sq<|Rg<|Lv Cm<|Nl<|Ps<|Sq<|Cf<|Xt<|Te<|Te<|Bh<|Ps<|Sq<|Rg<|Lv (Lw (l:=kzC (c,z1,z2)))<|LeN (StW (cs:=kzC (c,z1,z2))) fun _ _=>Nl<|Ps<|Rt<|PQ.retC (l:=kzC (c,z1,z2)) rfl rfl in_ Tryz.isAgg79 (by exact Tryz.sizeOf79) ?_
 intro w' hw;exact⟨(z1,z2),trivial,rfl,hw.below⟩
theorem kz_own {L:List Kz}{o:V.OwnO}(ho:ownOk 5 L.length (L.flatMap kzC) o){k:Nat}(hk:k<L.length):∃g r c,o=some (g,r,c):=by
 rcases o with _|⟨g,r,c⟩
 ·exact absurd ho.2 om_
 ·exact⟨g,r,c,rfl⟩
theorem fcall_g (c:Kal)(gl:List Kz)(gp:Option Addr)(gc:Nat)(hl:gl.length≤3000)(w:World)(h:V.slAt w gp 5 kzC gl):Calls Tryz.prog 114 [.agg (klC c (.slice gp gl.length gc)).toArray].toArray w fun e w'=>∃y:List Kz×V.OwnO,(y.1.map Prod.fst=gl.map Prod.fst∧ownOk 5 y.1.length (y.1.flatMap kzC) y.2)∧e= .returned (.agg (klC c (ownV y.1.length y.2)).toArray)∧Hp ⟨w,[]⟩ [ownG 79 ((y.1).flatMap kzC) y.2] w':=by
 refine Cb_ Tryz.func114 rfl Tryz.ntmps114<|Sq<|Rg<|Le XA fun b1 _=>Le AA fun b2 _=>pA_ 5 ?_
 refine Lv (Ld (v:= .slice gp gl.length gc))<|Le (CM [] fun w hw hs0=>cloneKz_c gl gp gc hl w (hw.slAt h (by simp[ids]))) fun o ho=>Lv (Fa 4 22)<|LeN (StS (h1:=V.ownV_one _ _)) fun _ _=>pA_ 6 ?_
 refine Lv (Ld (v:=ownV gl.length o))<|Lv (Val.lenOwn rfl Tryz.underlying22 ho)<|pA_ 4 ?_
 refine loopA (γ:=Nat×List Kz) (fun k=>[(1,.pointer (some ⟨b1,0,none⟩)),(2,.pointer (some ⟨b2,0,none⟩)),(10,ownV gl.length o),(11,.int .i64 (gl.length:Nat)),(12,.int .i64 (k.1:Nat))]) (fun k=>[[(b1,.cells (klC c (ownV gl.length o)).toArray 79 (0,0))],ownG 79 ((k.2).flatMap kzC) o,[(b2,.cells (kzC kz0).toArray 79 (0,0))]]) (fun k=>k.1≤gl.length∧k.2.map Prod.fst=gl.map Prod.fst∧ownOk 5 k.2.length (k.2.flatMap kzC) o) (fun k=>gl.length-k.1) ((0,gl)) ⟨Nat.zero_le _,rfl,ho⟩ fun k=>?_
 rintro⟨hk1,hk2,hk3⟩
 have hkn:k.2.length=gl.length:=by have:=congrArg List.length hk2;simpa using this
 refine pA_ 6 ?_
 refine Cd_ rfl (fun h13=>?_) fun h13=>?_
 ·have hkl:k.1<k.2.length:=by omega
  obtain⟨y,hy⟩:∃y,k.2[k.1]? =some y:=⟨k.2[k.1]'hkl,by simp⟩
  obtain⟨g,rest,cap,rfl⟩:=kz_own (L:=k.2) hk3 hkl
  obtain⟨r9,hr9⟩:=V.drop_flatMap kzC_len k.2 k.1 y hy
  have hr8:(k.2.flatMap kzC++rest).drop (0+k.1*5)=kzC y++(r9++rest):=by
   rw[Nat.zero_add,List.drop_append_of_le_length (by rw[V.flatMap_len kzC_len];omega),hr9,List.append_assoc]
  have hgn:gl.length=k.2.length:=by have:=congrArg List.length hk2;simpa using this.symm
  refine pA_ 7 ?_
  refine Lv (Val.indexAddrN (i:=k.1) rfl rfl Tryz.underlying22 Tryz.sizeOf79 om_)<|Lv (La (kzC y) (r:=r9++rest) (hl:=hr8))<|Le AA fun b4 _=>Lv Av<|LeN (StW (cs:=kzC y)) fun _ _=>Nl<|Ps<|Dr ([[(b1,.cells (klC c (.slice (some ⟨g,0,none⟩) gl.length cap)).toArray 79 (0,0))],[(b4,.cells (kzC y).toArray 79 (0,0))]])<|Rv 0 rfl (Fa 4 22)<|Rv 1 rfl (Ld (v:= .slice (some ⟨g,0,none⟩) gl.length cap))<|Rv 2 rfl Mv<|Rv 3 rfl (Lw (l:=kzC y))<|Re 4 rfl (CR fun w hw=>fcall0_g y.1 y.2.1 y.2.2 w) fun z _=>Rv 5 rfl (Val.indexAddrN (i:=k.1) rfl rfl Tryz.underlying22 Tryz.sizeOf79 om_)<|ReN 6 rfl (Eff.storeA (cs:=kzC (y.1,z)) (l:=k.2.flatMap kzC++rest) (l':=(k.2.set k.1 (y.1,z)).flatMap kzC++rest) rfl rfl up_ (by have h8:=splice_in kzC_len hy 0 (kzC (y.1,z)) (y:=(y.1,z)) (by rfl) (by simp[kzC_len]) rest;simpa using h8) (by rw[List.length_append,V.flatMap_len kzC_len];have:=Nat.mul_le_mul_right 5 (show k.1+1≤k.2.length from hkl);simp[kzC];omega) Tryz.sizeOf79 (by rfl)) fun _ _=>pA_ 7 ?_
  refine PQ.round ((k.1+1,(k.2.set k.1 (y.1,z)))) ⟨by simp only;omega,by simp only;rw[List.map_set,show((y.1,z):Kz).1=y.1 from rfl,set_same (by rw[List.getElem?_map,hy];rfl)];exact hk2,by
   simp only
   refine⟨V.flatMap_len kzC_len _,?_⟩
   have h8:=hk3.2
   simp only[V.flatMap_len kzC_len,List.length_set] at h8⊢
   exact h8⟩ (by simp only;omega) (by repeat(first|exact trivial|refine⟨rfl,?_⟩)) pk_
 ·refine Xt<|Te<|Te<|Bh<|Ps<|Sq<|Rg<|Lv (Lw (l:=klC c (ownV gl.length o)))<|LeN (StW (cs:=klC c (ownV gl.length o)) (h1:=by simp only[klC,List.all_cons,List.all_nil,V.ownV_one,oneS,oneI,Bool.and_true])) fun _ _=>Nl<|Ps<|Rt<|PQ.retC (l:=klC c (ownV gl.length o)) rfl rfl in_ Tryz.isAgg79 (by exact Tryz.sizeOf79) ?_
  intro w' hw;exact⟨(k.2,o),⟨hk2,hk3⟩,by rw[hkn],hw.pick pk_⟩
theorem fans_g (a:Ans)(sp hp:Option Addr)(sc hc:Nat)(hl:a.ps.length≤100000∧a.hs.length≤100000)(w:World)(h1:V.slAt w sp 2 prC a.ps)(h2:V.slAt w hp 1 boC a.hs):Calls Tryz.prog 117 [.agg [.int .i64 a.code,.bool a.fd,str a.val,.slice sp a.ps.length sc,.slice hp a.hs.length hc,.int .u64 a.ep].toArray].toArray w fun e w'=>∃y:V.OwnO×V.OwnO,(ownOk 2 a.ps.length (a.ps.flatMap prC) y.1∧ownOk 1 a.hs.length (a.hs.flatMap boC) y.2)∧e= .returned (.agg (anC a y.1 y.2).toArray)∧Hp ⟨w,[]⟩ (anS a y.1 y.2) w':=by
 refine Cb_ Tryz.func117 rfl Tryz.ntmps117<|Sq<|Rg<|Le XA fun b1 _=>Le AA fun b2 _=>Nl<|Ps<|Sq<|Rg<|Lv (Fa 3 37)<|Lv (Ld (v:= .slice sp a.ps.length sc))<|Le (CM [] fun w hw hs0=>clonePr_c a.ps sp sc hl.1 w (hw.slAt h1 (by simp[ids]))) fun so hso=>Lv (Fa 3 37)<|LeN (StS (h1:=V.ownV_one _ _)) fun _ _=>Nl<|Ps<|Sq<|Rg<|Lv (Fa 4 81)<|Lv (Ld (v:= .slice hp a.hs.length hc))<|Le (CM [] fun w hw hs0=>cloneBo_c a.hs hp hc hl.2 w (hw.slAt h2 (by simp[ids]))) fun ho hho=>Lv (Fa 4 81)<|LeN (StS (h1:=V.ownV_one _ _)) fun _ _=>Nl<|Ps<|Sq<|Rg<|Lv (Lw (l:=anC a so ho))<|LeN (StW (cs:=anC a so ho) (h1:=by simp only[anC,List.all_cons,List.all_nil,V.ownV_one,oneS,oneI,oneB,Bool.and_true])) fun _ _=>Nl<|Ps<|Rt<|PQ.retC (l:=anC a so ho) rfl rfl in_ Tryz.isAgg83 (by exact Tryz.sizeOf83) ?_
 exact fi_ (so,ho) ⟨hso,hho⟩
end
section
attribute [local irreducible] V.CW V.LW V.QW V.RW V.PQ V.Val V.Eff V.Qcall
open V (str byC ownV ownG ownS ownOk)
instance:Und Tryz.prog 159 (dOf Tryz.underlying159):=⟨Tryz.underlying159⟩
instance:Siz Tryz.prog 159 (kOf Tryz.sizeOf159):=⟨Tryz.sizeOf159⟩
instance:AgT Tryz.prog 159:=⟨Tryz.isAgg159⟩
instance:Zer Tryz.prog 159 (zOf Tryz.zeroValue159):=⟨Tryz.zeroValue159⟩
instance:Cal Tryz.prog 116:=⟨Tryz.call116⟩
instance:Cal Tryz.prog 117:=⟨Tryz.call117⟩
structure FrI where
 gz:List Kz
 gp:Option Addr
 gc:Nat
 bp:Option Addr
 bc:Nat
 pp:Option Addr
 pc:Nat
 sp:Option Addr
 sc:Nat
 hp:Option Addr
 hc:Nat
def fiC (f:Frm)(i:FrI):List Value:=klC f.c (.slice i.gp f.g.length i.gc)++([.int .i64 f.ph,.int .u64 f.ep,str f.pos,.bool f.past,.int .i64 f.lev,.bool f.had]++(lkC f.old++([.int .i64 f.line,.int .i64 f.cls,.int .i64 f.pc,.slice i.bp f.bs.length i.bc,.int .i64 f.at_,.slice i.pp f.pa.length i.pc]++[.int .i64 f.an.code,.bool f.an.fd,str f.an.val,.slice i.sp f.an.ps.length i.sc,.slice i.hp f.an.hs.length i.hc,.int .u64 f.an.ep])))
structure FiR (w:World)(f:Frm)(i:FrI):Prop where
 gz:i.gz.map Prod.fst=f.g
 g:V.slAt w i.gp 5 kzC i.gz
 b:V.slAt w i.bp 1 byE f.bs
 p:V.slAt w i.pp 8 ptC f.pa
 s:V.slAt w i.sp 2 prC f.an.ps
 h:V.slAt w i.hp 1 boC f.an.hs
structure FrSz (f:Frm):Prop where
 g:f.g.length≤3000
 b:f.bs.length≤10000
 p:f.pa.length≤1000
 s:f.an.ps.length≤10000
 h:f.an.hs.length≤1000
theorem fclone_g (f:Frm)(i:FrI)(hz:FrSz f)(w:World)(h:FiR w f i):Calls Tryz.prog 87 [.agg (fiC f i).toArray].toArray w fun e w'=>∃o:FrO,FrOk f o∧e= .returned (.agg (frC f o).toArray)∧Hp ⟨w,[]⟩ (frS f o) w':=by
 have hgl:i.gz.length=f.g.length:=by rw[← h.gz,List.length_map]
 obtain⟨hz1,hz2,hz3,hz4,hz5⟩:=hz
 refine Cb_ Tryz.func87 rfl Tryz.ntmps87<|Sq<|Rg<|Le XA fun b1 _=>Le AA fun b2 _=>pA_ 5 ?_
 refine Lv (La (klC f.c (.slice i.gp f.g.length i.gc)) (hl:=rfl))<|Le (CM [] fun w hw hs0=>(by have h8:=fcall_g f.c i.gz i.gp i.gc om_ w (hw.slAt h.g (by simp[ids]));rw[hgl] at h8;exact h8)) ?_
 rintro⟨gz,go⟩ ⟨hgz,hgo⟩
 simp only at hgz hgo⊢
 have hgl2:gz.length=f.g.length:=by have:=congrArg List.length hgz;simp at this;omega
 rw[hgl2]
 refine Lv (Fa 0 79)<|LeN (Eff.storeA (cs:=klC f.c (ownV f.g.length go)) (l:=((klC f.c (.slice i.gp f.g.length i.gc)++([.int .i64 f.ph,.int .u64 f.ep,str f.pos,.bool f.past,.int .i64 f.lev,.bool f.had]++(lkC f.old++([.int .i64 f.line,.int .i64 f.cls,.int .i64 f.pc,.slice i.bp f.bs.length i.bc,.int .i64 f.at_,.slice i.pp f.pa.length i.pc]++[.int .i64 f.an.code,.bool f.an.fd,str f.an.val,.slice i.sp f.an.ps.length i.sc,.slice i.hp f.an.hs.length i.hc,.int .u64 f.an.ep])))))) (l':=((klC f.c (ownV f.g.length go)++([.int .i64 f.ph,.int .u64 f.ep,str f.pos,.bool f.past,.int .i64 f.lev,.bool f.had]++(lkC f.old++([.int .i64 f.line,.int .i64 f.cls,.int .i64 f.pc,.slice i.bp f.bs.length i.bc,.int .i64 f.at_,.slice i.pp f.pa.length i.pc]++[.int .i64 f.an.code,.bool f.an.fd,str f.an.val,.slice i.sp f.an.ps.length i.sc,.slice i.hp f.an.hs.length i.hc,.int .u64 f.an.ep])))))) rfl rfl up_ (by rfl) (by simp[klC,lkC]) Tryz.sizeOf79 (by simp only[klC,List.all_cons,List.all_nil,V.ownV_one,oneS,oneI,Bool.and_true])) fun _ _=>pA_ 5 ?_
 refine Lv (Ld (v:= .slice i.bp f.bs.length i.bc))<|Le (CM [] fun w hw hs0=>cloneB_c f.bs i.bp f.bs.length i.bc rfl om_ w (hw.slAt h.b (by simp[ids]))) fun bo hbo=>?_
 rw[← byC_flat] at*
 refine Lv (Fa 19 133)<|LeN (StS (h1:=V.ownV_one _ _)) fun _ _=>pA_ 5 ?_
 refine Lv (Ld (v:= .slice i.pp f.pa.length i.pc))<|Le (CM [] fun w hw hs0=>clonePt_c f.pa i.pp i.pc hz3 w (hw.slAt h.p (by simp[ids]))) fun po hpo=>Lv (Fa 21 157)<|LeN (StS (h1:=V.ownV_one _ _)) fun _ _=>pA_ 5 ?_
 refine Lv (La ([.int .i64 f.an.code,.bool f.an.fd,str f.an.val,.slice i.sp f.an.ps.length i.sc,.slice i.hp f.an.hs.length i.hc,.int .u64 f.an.ep]) (r:=[]) (hl:=rfl))<|Le (CM [] fun w hw hs0=>fans_g f.an i.sp i.hp i.sc i.hc ⟨by omega,by omega⟩ w (hw.slAt h.s (by simp[ids])) (hw.slAt h.h (by simp[ids]))) ?_
 rintro⟨so,ho⟩ ⟨hso,hho⟩
 simp only at hso hho⊢
 refine Lv (Fa 22 83)<|LeN (Eff.storeA (cs:=anC f.an so ho) (l:=((klC f.c (ownV f.g.length go)++([.int .i64 f.ph,.int .u64 f.ep,str f.pos,.bool f.past,.int .i64 f.lev,.bool f.had]++(lkC f.old++([.int .i64 f.line,.int .i64 f.cls,.int .i64 f.pc,ownV f.bs.length bo,.int .i64 f.at_,ownV f.pa.length po]++[.int .i64 f.an.code,.bool f.an.fd,str f.an.val,.slice i.sp f.an.ps.length i.sc,.slice i.hp f.an.hs.length i.hc,.int .u64 f.an.ep])))))) (l':=frC f ⟨gz,go,bo,po,so,ho⟩) rfl rfl up_ (by rfl) (by simp[klC,anC,lkC]) Tryz.sizeOf83 (by simp only[anC,List.all_cons,List.all_nil,V.ownV_one,oneS,oneI,oneB,Bool.and_true])) fun _ _=>Nl<|Ps<|Sq<|Rg<|Lv (Lw (l:=frC f ⟨gz,go,bo,po,so,ho⟩))<|LeN (StW (cs:=frC f ⟨gz,go,bo,po,so,ho⟩) (h1:=by simp only[frC,klC,anC,lkC,List.cons_append,List.nil_append,List.all_cons,List.all_nil,V.ownV_one,oneS,oneI,oneB,Bool.and_true])) fun _ _=>Nl<|Ps<|Rt<|PQ.retC (l:=frC f ⟨gz,go,bo,po,so,ho⟩) rfl rfl in_ Tryz.isAgg159 (by exact Tryz.sizeOf159) ?_
 exact fi_ ⟨gz,go,bo,po,so,ho⟩ ⟨hgz.trans h.gz,hgo,hbo,hpo,hso,hho⟩
end
section
attribute [local irreducible] V.CW V.LW V.QW V.RW V.PQ V.Val V.Eff V.Qcall
open V (str byC ownV ownG ownS ownOk)
instance:Cal Tryz.prog 238:=⟨Tryz.call238⟩
instance:Cal Tryz.prog 239:=⟨Tryz.call239⟩
instance:Cal Tryz.prog 263:=⟨Tryz.call263⟩
instance:Cal Tryz.prog 264:=⟨Tryz.call264⟩
instance:Cal Tryz.prog 265:=⟨Tryz.call265⟩
instance:Cal Tryz.prog 278:=⟨Tryz.call278⟩
def keyB (k:Int):Bool:=decide (k=1∨k=2∨k=3)
def grpB (k:Int):Bool:=decide (k=2∨k=3∨k=4)
def noKey (y:Kal):Bool:=keyB y.k&&decide (y.key=[])
def kClash (y z:Kal):Bool:=keyB y.k&&keyB z.k&&decide (y.key=z.key)
def subOne (pre:List Kal)(y:Kal):Bool:=grpB y.k&& !noKey y&& !pre.any (kClash y)
def shapeK (c:Kal)(g:List Kal):Bool:= !(decide (c.k<1∨8<c.k)||noKey c)&&(decide (c.k≠7)||decide (1≤g.length∧g.length≤3)&&allPre subOne [] g)
def long1 (x:Kal):Bool:=if x.k=1∨x.k=3 then decide (16<x.key.length) else if x.k=2 then decide (16<x.key.length)||decide (400<x.val.length) else if x.k=4 then decide (400<x.val.length) else if x.k=6 then decide (16<x.key.length)||decide (16<x.to.length) else false
def longK (c:Kal)(g:List Kal):Bool:=if c.k=7 then g.any long1 else long1 c
def goodK (c:Kal)(g:List Kal):Int:=if shapeK c g=true then(if longK c g=true then 5 else 0) else 1
theorem keyed_c (k:Int):Rz Tryz.prog 263 [.int .i64 k] (.bool (keyB k)):=by
 intro w
 refine Cb_ Tryz.func263 rfl Tryz.ntmps263<|pA_ 10 ?_
 refine LW.split (d:=5) rfl (fun h5=>?_) (fun h5=>?_)
 ·replace h5:=bT h5
  refine pA_ 12 ?_
  intro w' hw;exact⟨by unfold keyB;congr 2;first|(simp_all;done)|(rw[Bool.eq_iff_iff];simp only[beq_iff_eq,decide_eq_true_eq];omega),hw.below⟩
 ·replace h5:=bF h5
  refine pA_ 4 ?_
  refine LW.split (d:=9) rfl (fun h9=>?_) (fun h9=>?_)
  ·replace h9:=bT h9
   refine pA_ 8 ?_
   intro w' hw;exact⟨by unfold keyB;congr 2;first|(simp_all;done)|(rw[Bool.eq_iff_iff];simp only[beq_iff_eq,decide_eq_true_eq];omega),hw.below⟩
  ·replace h9:=bF h9
   refine pA_ 8 ?_
   intro w' hw;exact⟨by unfold keyB;congr 2;first|(simp_all;done)|(rw[Bool.eq_iff_iff];simp only[beq_iff_eq,decide_eq_true_eq];omega),hw.below⟩
theorem grouped_c (k:Int):Rz Tryz.prog 264 [.int .i64 k] (.bool (grpB k)):=by
 intro w
 refine Cb_ Tryz.func264 rfl Tryz.ntmps264<|pA_ 10 ?_
 refine LW.split (d:=5) rfl (fun h5=>?_) (fun h5=>?_)
 ·replace h5:=bT h5
  refine pA_ 12 ?_
  intro w' hw;exact⟨by unfold grpB;congr 2;first|(simp_all;done)|(rw[Bool.eq_iff_iff];simp only[beq_iff_eq,decide_eq_true_eq];omega),hw.below⟩
 ·replace h5:=bF h5
  refine pA_ 4 ?_
  refine LW.split (d:=9) rfl (fun h9=>?_) (fun h9=>?_)
  ·replace h9:=bT h9
   refine pA_ 8 ?_
   intro w' hw;exact⟨by unfold grpB;congr 2;first|(simp_all;done)|(rw[Bool.eq_iff_iff];simp only[beq_iff_eq,decide_eq_true_eq];omega),hw.below⟩
  ·replace h9:=bF h9
   refine pA_ 8 ?_
   intro w' hw;exact⟨by unfold grpB;congr 2;first|(simp_all;done)|(rw[Bool.eq_iff_iff];simp only[beq_iff_eq,decide_eq_true_eq];omega),hw.below⟩
theorem any_take2 {α:Type}{g:α→Bool}{l:List α}{i:Nat}{y:α}(h:l[i]? =some y):(l.take (i+1)).any g=((l.take i).any g||g y):=by
 rw[List.take_add_one,h,Option.toList_some,List.any_append]
 simp
theorem shapeK_c (c:Kal)(gl:List Kz)(gp:Option Addr)(gc:Nat)(hl:gl.length≤gc∧gl.length≤3000)(w:World)(h:V.slAt w gp 5 kzC gl):Calls Tryz.prog 238 [.agg (klC c (.slice gp gl.length gc)).toArray].toArray w fun e w'=>e= .returned (.bool (shapeK c (gl.map Prod.fst)))∧Below w.heap.size w w':=by
 refine Cb_ Tryz.func238 rfl Tryz.ntmps238<|Sq<|Rg<|Le XA fun b1 _=>pA_ 5 ?_
 refine CW.regJoin (fun _:Unit=>True) (fun _=>[(1,.pointer (some ⟨b1,0,none⟩)),(24,.bool ((decide (c.k<1∨8<c.k)||noKey c)))]) (fun _=>[[(b1,.cells (klC c (.slice gp gl.length gc)).toArray 79 (0,0))]]) ?_ ?_
 ·refine Rg<|Lv (Fa 0 3)<|Lv (Ld (v:= .int .i64 c.k))<|Lv Cm<|Lv Mv ?_
  refine LW.split (d:=10) rfl (fun h10=>?_) (fun h10=>?_)
  ·replace h10:=bT h10
   refine pA_ 15 ?_
   refine PQ.joined (()) (trivial) (by exact⟨rfl,congrArg (fun b=>some (Value.bool b)) (by unfold noKey;first|exact(decide_eq_true om_).symm|(rw[decide_eq_decide];omega)|(simp_all;done)|(simp_all;omega)|(rw[Bool.eq_iff_iff];simp_all;omega)),trivial⟩) pk_
  ·replace h10:=bF h10
   refine Lv (Fa 0 3)<|Lv (Ld (v:= .int .i64 c.k))<|pA_ 3 ?_
   refine LW.split (d:=15) rfl (fun h15=>?_) (fun h15=>?_)
   ·replace h15:=bT h15
    refine pA_ 10 ?_
    refine PQ.joined (()) (trivial) (by exact⟨rfl,congrArg (fun b=>some (Value.bool b)) (by unfold noKey;first|exact(decide_eq_true om_).symm|(rw[decide_eq_decide];omega)|(simp_all;done)|(simp_all;omega)|(rw[Bool.eq_iff_iff];simp_all;omega)),trivial⟩) pk_
   ·replace h15:=bF h15
    refine Lv (Fa 0 3)<|Lv (Ld (v:= .int .i64 c.k))<|Le (Cz_ (keyed_c _)) fun _ _=>Lv Mv ?_
    refine LW.split (d:=19) rfl (fun h19=>?_) (fun h19=>?_)
    ·replace h19:=bT h19
     refine Lv (Fa 1 9)<|Lv (Ld (v:=str c.key))<|pA_ 4 ?_
     refine PQ.joined (()) (trivial) (by exact⟨rfl,congrArg (fun b=>some (Value.bool b)) (by unfold noKey;first|exact(decide_eq_true om_).symm|(rw[decide_eq_decide];omega)|(simp_all;done)|(simp_all;omega)|(rw[Bool.eq_iff_iff];simp_all;omega)),trivial⟩) pk_
    ·replace h19:=bF h19
     refine pA_ 6 ?_
     refine PQ.joined (()) (trivial) (by exact⟨rfl,congrArg (fun b=>some (Value.bool b)) (by unfold noKey;first|exact(decide_eq_true om_).symm|(rw[decide_eq_decide];omega)|(simp_all;done)|(simp_all;omega)|(rw[Bool.eq_iff_iff];simp_all;omega)),trivial⟩) pk_
 ·intro _ _
  refine Ps ?_
  refine Cd_ rfl (fun h24=>?_) fun h24=>?_
  ·have h24:(decide (c.k<1∨8<c.k)||noKey c)=true:=h24
   refine pA_ 8 ?_
   have e1:shapeK c (gl.map Prod.fst)=false:=by unfold shapeK;rw[h24];rfl
   rw[e1]
   exact fb_
  ·have h24:(decide (c.k<1∨8<c.k)||noKey c)=false:=by rw[decide_eq_false h24.1,h24.2];rfl
   have hsh0:(!(decide (c.k<1∨8<c.k)||noKey c))=true:=by rw[h24];rfl
   refine pA_ 6 ?_
   refine Lv (Ld (v:= .int .i64 c.k))<|pA_ 3 ?_
   refine Cd_ rfl (fun h27=>?_) fun h27=>?_
   ·have h27:c.k≠7:=h27
    refine pA_ 8 ?_
    have e1:shapeK c (gl.map Prod.fst)=true:=by unfold shapeK;rw[hsh0,decide_eq_true h27];rfl
    rw[e1]
    exact fb_
   ·have h27:c.k=7:=h27
    refine pA_ 4 ?_
    refine CW.regJoin (fun _:Unit=>True) (fun _=>[(1,.pointer (some ⟨b1,0,none⟩)),(37,.bool (decide (gl.length<1∨3<gl.length)))]) (fun _=>[[(b1,.cells (klC c (.slice gp gl.length gc)).toArray 79 (0,0))]]) ?_ ?_
    ·refine Rg<|Lv (Fa 4 22)<|Lv Ld<|pA_ 3 ?_
     refine LW.split (d:=32) rfl (fun h32=>?_) (fun h32=>?_)
     ·replace h32:=bT h32
      refine pA_ 6 ?_
      refine PQ.joined (()) (trivial) (by exact⟨rfl,congrArg (fun b=>some (Value.bool b)) (by first|exact(decide_eq_true om_).symm|(rw[decide_eq_decide];omega)|(simp_all;done)|(simp_all;omega)|(rw[Bool.eq_iff_iff];simp_all;omega)),trivial⟩) pk_
     ·replace h32:=bF h32
      refine Lv (Fa 4 22)<|Lv Ld<|pA_ 4 ?_
      refine PQ.joined (()) (trivial) (by exact⟨rfl,congrArg (fun b=>some (Value.bool b)) (by first|exact(decide_eq_true om_).symm|(rw[decide_eq_decide];omega)|(simp_all;done)|(simp_all;omega)|(rw[Bool.eq_iff_iff];simp_all;omega)),trivial⟩) pk_
    ·intro _ _
     refine Ps ?_
     refine Cd_ rfl (fun h37=>?_) fun h37=>?_
     ·have h37:((gl.length:Nat):Int)<1∨3<gl.length:=by omega
      refine pA_ 8 ?_
      have e1:shapeK c (gl.map Prod.fst)=false:=by unfold shapeK;rw[decide_eq_false (show ¬(1≤((gl.map Prod.fst)).length∧((gl.map Prod.fst)).length≤3) by rw[List.length_map];omega)];simp[h27]
      rw[e1]
      exact fb_
     ·have h37:¬(gl.length<1∨3<gl.length):=h37
      refine pA_ 6 ?_
      refine Lv Ld<|pA_ 5 ?_
      refine loopA (γ:=Nat) (fun k=>[(1,.pointer (some ⟨b1,0,none⟩)),(39,.slice gp gl.length gc),(40,.int .i64 (gl.length:Nat)),(41,.int .i64 (k:Nat))]) (fun _=>[[(b1,.cells (klC c (.slice gp gl.length gc)).toArray 79 (0,0))]]) (fun k=>k≤gl.length∧allPre subOne [] (gl.map Prod.fst)=allPre subOne ((gl.map Prod.fst).take k) ((gl.map Prod.fst).drop k)) (fun k=>gl.length-k) (0) ⟨Nat.zero_le _,rfl⟩ fun k=>?_
      rintro⟨hk1,hk2⟩
      refine pA_ 6 ?_
      refine Cd_ rfl (fun h42=>?_) fun h42=>?_
      ·obtain⟨bb1,o1,y,rfl,hb1,hx1,hr1⟩:=V.slAt_at h rfl (k:=k) om_
       have hym:((gl.map Prod.fst))[k]? =some y.1:=by rw[List.getElem?_map,hx1];rfl
       have hst:=allPre_step (f:=subOne) hym
       refine pA_ 8 ?_
       refine Lv (Val.loadOA (cs:=kzC y) rfl Tryz.isAgg79 hb1 (by simp[ids]) (hr1 (k) _ hx1) Tryz.sizeOf79)<|Le AA fun b4 _=>Lv Av<|LeN (StW (cs:=kzC y)) fun _ _=>pA_ 4 ?_
       refine CW.regJoin (fun _:Unit=>True) (fun _=>[(1,.pointer (some ⟨b1,0,none⟩)),(3,.int .i64 (k:Nat)),(4,.pointer (some ⟨b4,0,none⟩)),(39,.slice (some ⟨bb1,o1,none⟩) gl.length gc),(40,.int .i64 (gl.length:Nat)),(41,.int .i64 (k:Nat)),(59,.bool ((!grpB y.1.k||noKey y.1)))]) (fun _=>[[(b1,.cells (klC c (.slice (some ⟨bb1,o1,none⟩) gl.length gc)).toArray 79 (0,0))],[(b4,.cells (kzC y).toArray 79 (0,0))]]) ?_ ?_
       ·refine Rg<|Lv (Fa 0 3)<|Lv (Ld (v:= .int .i64 y.1.k))<|Le (Cz_ (grouped_c _)) fun _ _=>Lv Nt<|Lv Mv ?_
        refine LW.split (d:=50) rfl (fun h50=>?_) (fun h50=>?_)
        ·replace h50:=bT h50
         refine pA_ 10 ?_
         refine PQ.joined (()) (trivial) (by exact⟨rfl,rfl,rfl,rfl,rfl,rfl,congrArg (fun b=>some (Value.bool b)) (by unfold noKey;first|exact(decide_eq_true om_).symm|(rw[decide_eq_decide];omega)|(simp_all;done)|(simp_all;omega)|(rw[Bool.eq_iff_iff];simp_all;omega)),trivial⟩) pk_
        ·replace h50:=bF h50
         refine Lv (Fa 0 3)<|Lv (Ld (v:= .int .i64 y.1.k))<|Le (Cz_ (keyed_c _)) fun _ _=>Lv Mv ?_
         refine LW.split (d:=54) rfl (fun h54=>?_) (fun h54=>?_)
         ·replace h54:=bT h54
          refine Lv (Fa 1 9)<|Lv (Ld (v:=str y.1.key))<|pA_ 4 ?_
          refine PQ.joined (()) (trivial) (by exact⟨rfl,rfl,rfl,rfl,rfl,rfl,congrArg (fun b=>some (Value.bool b)) (by unfold noKey;first|exact(decide_eq_true om_).symm|(rw[decide_eq_decide];omega)|(simp_all;done)|(simp_all;omega)|(rw[Bool.eq_iff_iff];simp_all;omega)),trivial⟩) pk_
         ·replace h54:=bF h54
          refine pA_ 6 ?_
          refine PQ.joined (()) (trivial) (by exact⟨rfl,rfl,rfl,rfl,rfl,rfl,congrArg (fun b=>some (Value.bool b)) (by unfold noKey;first|exact(decide_eq_true om_).symm|(rw[decide_eq_decide];omega)|(simp_all;done)|(simp_all;omega)|(rw[Bool.eq_iff_iff];simp_all;omega)),trivial⟩) pk_
       ·intro _ _
        refine Ps ?_
        refine Cd_ rfl (fun h59=>?_) fun h59=>?_
        ·refine pA_ 13 ?_
         have e2:subOne (((gl.map Prod.fst)).take k) y.1=false:=by unfold subOne;have h8:(!grpB y.1.k||noKey y.1)=true:=h59;cases h7:grpB y.1.k<;>simp_all
         have e1:shapeK c (gl.map Prod.fst)=false:=by unfold shapeK;rw[hk2,hst,e2];simp only[Bool.and_eq_false_iff];right;simp[h27]
         rw[e1]
         exact fb_
        ·refine pA_ 5 ?_
         refine Lv Ld<|Lv Mv<|Lv (Val.slice 0 k gc rfl Tryz.underlying22 Tryz.sizeOf79 rfl ⟨_,rfl⟩ rfl (fun h=>by cases h) om_ om_ om_)<|LW.re 63 (.slice (some ⟨bb1,o1,none⟩) k gc) rfl (by simp)<|pA_ 5 ?_
         refine loopA (γ:=Nat) (fun j=>[(1,.pointer (some ⟨b1,0,none⟩)),(3,.int .i64 (k:Nat)),(4,.pointer (some ⟨b4,0,none⟩)),(39,.slice (some ⟨bb1,o1,none⟩) gl.length gc),(40,.int .i64 (gl.length:Nat)),(41,.int .i64 (k:Nat)),(63,.slice (some ⟨bb1,o1,none⟩) k gc),(64,.int .i64 (k:Nat)),(65,.int .i64 (j:Nat))]) (fun _=>[[(b1,.cells (klC c (.slice (some ⟨bb1,o1,none⟩) gl.length gc)).toArray 79 (0,0))],[(b4,.cells (kzC y).toArray 79 (0,0))]]) (fun j=>j≤k∧((gl.map Prod.fst).take j).any (kClash y.1)=false) (fun j=>k-j) (0) ⟨Nat.zero_le _,rfl⟩ fun j=>?_
         rintro⟨hj1,hj2⟩
         refine pA_ 6 ?_
         refine Cd_ rfl (fun h66=>?_) fun h66=>?_
         ·obtain⟨z,hz⟩:∃z,gl[j]? =some z:=⟨gl[j]'om_,by simp⟩
          have hzm:((gl.map Prod.fst))[j]? =some z.1:=by rw[List.getElem?_map,hz];rfl
          refine pA_ 7 ?_
          refine Lv (Val.loadOA (cs:=kzC z) rfl Tryz.isAgg79 hb1 (by simp[ids]) (hr1 (j) _ hz) Tryz.sizeOf79)<|Le AA fun b6 _=>LeN (StW (cs:=kzC z)) fun _ _=>pA_ 3 ?_
          refine CW.regJoin (fun _:Unit=>True) (fun _=>[(1,.pointer (some ⟨b1,0,none⟩)),(3,.int .i64 (k:Nat)),(4,.pointer (some ⟨b4,0,none⟩)),(39,.slice (some ⟨bb1,o1,none⟩) gl.length gc),(40,.int .i64 (gl.length:Nat)),(41,.int .i64 (k:Nat)),(63,.slice (some ⟨bb1,o1,none⟩) k gc),(64,.int .i64 (k:Nat)),(65,.int .i64 (j:Nat)),(83,.bool (kClash y.1 z.1))]) (fun _=>[[(b1,.cells (klC c (.slice (some ⟨bb1,o1,none⟩) gl.length gc)).toArray 79 (0,0))],[(b4,.cells (kzC y).toArray 79 (0,0))]]) ?_ ?_
          ·refine Rg<|Lv (Fa 0 3)<|Lv (Ld (v:= .int .i64 y.1.k))<|Le (Cz_ (keyed_c _)) fun _ _=>Lv Mv ?_
           refine LW.split (d:=72) rfl (fun h72=>?_) (fun h72=>?_)
           ·replace h72:=bT h72
            refine Lv (Fa 0 3)<|Lv (Ld (v:= .int .i64 z.1.k))<|Le (Cz_ (keyed_c _)) fun _ _=>Lv Pt<|Lv Mv ?_
            refine LW.split (d:=77) rfl (fun h77=>?_) (fun h77=>?_)
            ·replace h77:=bT h77
             refine Lv (Fa 1 9)<|Lv (Ld (v:=str y.1.key))<|Lv (Fa 1 9)<|Lv (Ld (v:=str z.1.key))<|pA_ 3 ?_
             refine PQ.joined (()) (trivial) (by exact⟨rfl,rfl,rfl,rfl,rfl,rfl,rfl,rfl,rfl,congrArg (fun b=>some (Value.bool b)) (by unfold kClash;first|exact(decide_eq_true om_).symm|(rw[decide_eq_decide];omega)|(simp_all;done)|(simp_all;omega)|(rw[Bool.eq_iff_iff];simp_all;omega)),trivial⟩) pk_
            ·replace h77:=bF h77
             refine pA_ 7 ?_
             refine PQ.joined (()) (trivial) (by exact⟨rfl,rfl,rfl,rfl,rfl,rfl,rfl,rfl,rfl,congrArg (fun b=>some (Value.bool b)) (by unfold kClash;first|exact(decide_eq_true om_).symm|(rw[decide_eq_decide];omega)|(simp_all;done)|(simp_all;omega)|(rw[Bool.eq_iff_iff];simp_all;omega)),trivial⟩) pk_
           ·replace h72:=bF h72
            refine pA_ 12 ?_
            refine PQ.joined (()) (trivial) (by exact⟨rfl,rfl,rfl,rfl,rfl,rfl,rfl,rfl,rfl,congrArg (fun b=>some (Value.bool b)) (by unfold kClash;first|exact(decide_eq_true om_).symm|(rw[decide_eq_decide];omega)|(simp_all;done)|(simp_all;omega)|(rw[Bool.eq_iff_iff];simp_all;omega)),trivial⟩) pk_
          ·intro _ _
           refine Ps ?_
           refine Cd_ rfl (fun h83=>?_) fun h83=>?_
           ·refine pA_ 16 ?_
            have e2:subOne (((gl.map Prod.fst)).take k) y.1=false:=by unfold subOne;rw[show(((gl.map Prod.fst)).take k).any (kClash y.1)=true from List.any_eq_true.2 ⟨z.1,List.mem_of_getElem? (i:=j) (by rw[List.getElem?_take_of_lt om_,List.getElem?_map,hz];rfl),h83⟩];simp
            have e1:shapeK c (gl.map Prod.fst)=false:=by unfold shapeK;rw[hk2,hst,e2];simp only[Bool.and_eq_false_iff];right;simp[h27]
            rw[e1]
            exact fb_
           ·refine pA_ 7 ?_
            exact roundA (j+1) ⟨by omega,by rw[any_take2 hzm,hj2,Bool.false_or];exact h83⟩ om_
         ·refine pA_ 10 ?_
          refine PQ.round (k+1) ⟨by omega,by
           obtain rfl:j=k:=by omega
           have e2:subOne (((gl.map Prod.fst)).take j) y.1=true:=by
            have h8:(!grpB y.1.k||noKey y.1)=false:=by rw[h59.1,h59.2];rfl
            unfold subOne;rw[hj2];cases h7:grpB y.1.k<;>simp_all
           rw[hk2,hst,e2,Bool.true_and]⟩ om_ (by repeat(first|exact trivial|refine⟨rfl,?_⟩)) pk_
      ·refine pA_ 12 ?_
       have e1:shapeK c (gl.map Prod.fst)=true:=by
        unfold shapeK
        rw[hk2,List.drop_of_length_le (by rw[List.length_map];omega)]
        simp only[allPre,Bool.and_true,List.length_map]
        rw[hsh0,decide_eq_true (show 1≤gl.length∧gl.length≤3 by omega)];simp
       rw[e1]
       exact fb_
theorem long1_c (c:Kal)(g:Value)(hg:g.oneCell'=true)(hk:c.k≠7):Rz Tryz.prog 239 [.agg (klC c g).toArray] (.bool (long1 c)):=by
 intro w
 refine Cb_ Tryz.func239 rfl Tryz.ntmps239<|Sq<|Rg<|Le XA fun b1 _=>pA_ 7 ?_
 refine Lv (Ld (v:= .int .i64 c.k))<|pA_ 8 ?_
 refine LW.split (d:=5) rfl (fun h5=>?_) (fun h5=>?_)
 ·replace h5:=bT h5
  refine pA_ 9 ?_
  refine Lv (Ld (v:=str c.key))<|pA_ 9 ?_
  intro w' hw;exact⟨by unfold long1;first|(simp_all;done)|(simp_all;omega)|(congr 2;rw[Bool.eq_iff_iff];simp_all;omega),hw.below⟩
 ·replace h5:=bF h5
  refine pA_ 6 ?_
  refine LW.split (d:=5) rfl (fun h5=>?_) (fun h5=>?_)
  ·replace h5:=bT h5
   refine pA_ 6 ?_
   refine Lv (Ld (v:=str c.key))<|pA_ 9 ?_
   intro w' hw;exact⟨by unfold long1;first|(simp_all;done)|(simp_all;omega)|(congr 2;rw[Bool.eq_iff_iff];simp_all;omega),hw.below⟩
  ·replace h5:=bF h5
   refine pA_ 9 ?_
   refine Cd_ rfl (fun h12=>?_) fun h12=>?_
   ·have h12:c.k=2:=h12
    refine pA_ 3 ?_
    refine Lv (Ld (v:=str c.key))<|pA_ 3 ?_
    refine LW.split (d:=18) rfl (fun h18=>?_) (fun h18=>?_)
    ·replace h18:=bT h18
     refine pA_ 12 ?_
     intro w' hw;exact⟨by unfold long1;first|(simp_all;done)|(simp_all;omega)|(congr 2;rw[Bool.eq_iff_iff];simp_all;omega),hw.below⟩
    ·replace h18:=bF h18
     refine Lv (Fa 2 9)<|Lv (Ld (v:=str c.val))<|pA_ 10 ?_
     intro w' hw;exact⟨by unfold long1;first|(simp_all;done)|(simp_all;omega)|(congr 2;rw[Bool.eq_iff_iff];simp_all;omega),hw.below⟩
   ·have h12:c.k≠2:=h12
    refine pA_ 6 ?_
    refine Cd_ rfl (fun h24=>?_) fun h24=>?_
    ·have h24:c.k=4:=h24
     refine pA_ 3 ?_
     refine Lv (Ld (v:=str c.val))<|pA_ 9 ?_
     intro w' hw;exact⟨by unfold long1;first|(simp_all;done)|(simp_all;omega)|(congr 2;rw[Bool.eq_iff_iff];simp_all;omega),hw.below⟩
    ·have h24:c.k≠4:=h24
     refine pA_ 6 ?_
     refine Cd_ rfl (fun h30=>?_) fun h30=>?_
     ·have h30:c.k=6:=h30
      refine pA_ 3 ?_
      refine Lv (Ld (v:=str c.key))<|pA_ 3 ?_
      refine LW.split (d:=36) rfl (fun h36=>?_) (fun h36=>?_)
      ·replace h36:=bT h36
       refine pA_ 12 ?_
       intro w' hw;exact⟨by unfold long1;first|(simp_all;done)|(simp_all;omega)|(congr 2;rw[Bool.eq_iff_iff];simp_all;omega),hw.below⟩
      ·replace h36:=bF h36
       refine Lv (Fa 3 9)<|Lv (Ld (v:=str c.to))<|pA_ 10 ?_
       intro w' hw;exact⟨by unfold long1;first|(simp_all;done)|(simp_all;omega)|(congr 2;rw[Bool.eq_iff_iff];simp_all;omega),hw.below⟩
     ·have h30:c.k≠6:=h30
      refine pA_ 6 ?_
      refine CW.cond rfl (fun h42=>?_) (fun h42=>?_)
      ·exact absurd (bT h42) hk
      ·replace h42:=bF h42
       refine pA_ 10 ?_
       intro w' hw;exact⟨by unfold long1;first|(simp_all;done)|(simp_all;omega)|(congr 2;rw[Bool.eq_iff_iff];simp_all;omega),hw.below⟩
theorem anyP {L:List Kal}{k:Nat}{y:Kal}(hx:L[k]? =some y)(h:long1 y=true):((0:Int)≤(k:Nat))=(L.any long1=true):=by
 simp only[eq_iff_iff]
 exact⟨fun _=>List.any_eq_true.2 ⟨y,List.mem_of_getElem? hx,h⟩,fun _=>by omega⟩
theorem anyN {L:List Kal}(h:L.any long1=false):((0:Int)≤ -1)=(L.any long1=true):=by
 rw[h];simp only[eq_iff_iff]
 exact⟨fun h=>by omega,fun h=>by cases h⟩
theorem anyIx_c (gl:List Kz)(h7:∀z∈gl,z.1.k≠7)(gp:Option Addr)(gc:Nat)(hl:gl.length≤3000)(w:World)(h:V.slAt w gp 5 kzC gl):Calls Tryz.prog 278 [.slice gp gl.length gc,.func (.func 239) #[] #[]].toArray w fun e w'=>∃i:Int,((0≤i)=((gl.map Prod.fst).any long1=true))∧e= .returned (.int .i64 i)∧Below w.heap.size w w':=by
 refine Cb_ Tryz.func278 rfl Tryz.ntmps278<|pA_ 14 ?_
 refine loopA (γ:=Nat) (fun k=>[(0,.slice gp gl.length gc),(1,.func (.func 239) #[] #[]),(7,.int .i64 (gl.length:Nat)),(8,.int .i64 (k:Nat))]) (fun _=>[]) (fun k=>k≤gl.length∧((gl.map Prod.fst).take k).any long1=false) (fun k=>gl.length-k) (0) ⟨Nat.zero_le _,rfl⟩ fun k=>?_
 rintro⟨hk1,hk2⟩
 refine pA_ 6 ?_
 refine Cd_ rfl (fun h9=>?_) fun h9=>?_
 ·obtain⟨bb1,o1,y,rfl,hb1,hx1,hr1⟩:=V.slAt_at h rfl (k:=k) om_
  have hym:((gl.map Prod.fst))[k]? =some y.1:=by rw[List.getElem?_map,hx1];rfl
  refine pA_ 16 ?_
  refine Lv (Val.loadOA (cs:=kzC y) rfl Tryz.isAgg79 hb1 (by simp[ids]) (hr1 (k) _ hx1) Tryz.sizeOf79)<|Le (Eff.callFV (f:=239) (caps:=[]) rfl rfl Tryz.call239 (fun w hw=>long1_c y.1 (.slice y.2.1 0 y.2.2) rfl (h7 y (List.mem_of_getElem? hx1)) w)) fun _ _=>Nl<|Ps ?_
  refine Cd_ rfl (fun h16=>?_) fun h16=>?_
  ·have h16:long1 y.1=true:=h16
   refine pA_ 13 ?_
   intro w' hw;exact⟨(k:Nat),anyP hym h16,rfl,hw.below⟩
  ·have h16:long1 y.1=false:=h16
   refine pA_ 7 ?_
   exact roundA (k+1) ⟨by omega,by rw[any_take2 hym,hk2,h16];rfl⟩ om_
 ·refine pA_ 12 ?_
  intro w' hw;exact⟨-1,anyN (by rw[List.take_of_length_le (by rw[List.length_map];omega)] at hk2;exact hk2),rfl,hw.below⟩
theorem anyLong_c (gl:List Kz)(h7:∀z∈gl,z.1.k≠7)(gp:Option Addr)(gc:Nat)(hl:gl.length≤3000)(w:World)(h:V.slAt w gp 5 kzC gl):Calls Tryz.prog 265 [.slice gp gl.length gc,.func (.func 239) #[] #[]].toArray w fun e w'=>e= .returned (.bool ((gl.map Prod.fst).any long1))∧Below w.heap.size w w':=by
 refine Cb_ Tryz.func265 rfl Tryz.ntmps265<|pA_ 9 ?_
 refine Le (CR fun w hw=>anyIx_c gl h7 gp gc hl w (hw.slAt h (by simp[ids]))) fun i hi=>pA_ 6 ?_
 intro w' hw;exact⟨by congr 2;rw[Bool.eq_iff_iff,decide_eq_true_eq,hi],hw.below⟩
theorem longG_c (c:Kal)(gl:List Kz)(gp:Option Addr)(gc:Nat)(hl:gl.length≤gc∧gl.length≤3000)(w:World)(h:V.slAt w gp 5 kzC gl)(hk:c.k=7)(h7:∀z∈gl,z.1.k≠7):Calls Tryz.prog 239 [.agg (klC c (.slice gp gl.length gc)).toArray].toArray w fun e w'=>e= .returned (.bool ((gl.map Prod.fst).any long1))∧Below w.heap.size w w':=by
 refine Cb_ Tryz.func239 rfl Tryz.ntmps239<|Sq<|Rg<|Le XA fun b1 _=>pA_ 7 ?_
 refine Lv (Ld (v:= .int .i64 c.k))<|pA_ 7 ?_
 refine LW.re 6 (.bool false) rfl (by simp[hk])<|pA_ 6 ?_
 refine LW.re 7 (.bool false) rfl (by simp[hk])<|pA_ 7 ?_
 refine LW.re 13 (.bool false) rfl (by simp[hk])<|pA_ 7 ?_
 refine LW.re 25 (.bool false) rfl (by simp[hk])<|pA_ 7 ?_
 refine LW.re 31 (.bool false) rfl (by simp[hk])<|pA_ 7 ?_
 refine LW.re 43 (.bool true) rfl (by simp[hk])<|pA_ 7 ?_
 refine Lv (Ld (v:= .slice gp gl.length gc))<|Le (CV fun w hw=>anyLong_c gl h7 gp gc hl.2 w (hw.slAt h (by simp[ids]))) fun _ _=>pA_ 7 ?_
 exact fb_
theorem sub_kind:∀{L pre:List Kal},allPre subOne pre L=true→∀y∈L,y.k≠7
 |[],_,_,y,hy=>by cases hy
 |z::r,pre,h,y,hy=>by
  rw[allPre,Bool.and_eq_true] at h
  rcases List.mem_cons.1 hy with rfl|hy
  ·have h1:=h.1
   unfold subOne grpB at h1
   simp only[Bool.and_eq_true,decide_eq_true_eq] at h1
   omega
  ·exact sub_kind h.2 y hy
theorem shape_kind {c:Kal}{g:List Kal}(h:shapeK c g=true)(hk:c.k=7):∀y∈g,y.k≠7:=by
 unfold shapeK at h
 rw[Bool.and_eq_true,Bool.or_eq_true,Bool.and_eq_true] at h
 rcases h.2 with h1|h1
 ·simp[hk] at h1
 ·exact sub_kind h1.2
theorem longA_c (c:Kal)(gl:List Kz)(gp:Option Addr)(gc:Nat)(hl:gl.length≤gc∧gl.length≤3000)(w:World)(h:V.slAt w gp 5 kzC gl)(hs:shapeK c (gl.map Prod.fst)=true):Calls Tryz.prog 239 [.agg (klC c (.slice gp gl.length gc)).toArray].toArray w fun e w'=>e= .returned (.bool (longK c (gl.map Prod.fst)))∧Below w.heap.size w w':=by
 unfold longK
 by_cases hk:c.k=7
 ·rw[if_pos hk]
  exact longG_c c gl gp gc hl w h hk (fun z hz=>shape_kind hs hk z.1 (List.mem_map_of_mem hz))
 ·rw[if_neg hk]
  exact long1_c c (.slice gp gl.length gc) rfl hk w
theorem good_g (c:Kal)(gl:List Kz)(gp:Option Addr)(gc:Nat)(hl:gl.length≤gc∧gl.length≤3000)(w:World)(h:V.slAt w gp 5 kzC gl):Calls Tryz.prog 205 [.agg (klC c (.slice gp gl.length gc)).toArray].toArray w fun e w'=>e= .returned (.int .i64 (goodK c (gl.map Prod.fst)))∧Below w.heap.size w w':=by
 refine Cb_ Tryz.func205 rfl Tryz.ntmps205<|Sq<|Rg<|Le XA fun b1 _=>pA_ 6 ?_
 refine Lv (Lw (l:=klC c (.slice gp gl.length gc)))<|Le (CV fun w hw=>shapeK_c c gl gp gc hl w (hw.slAt h (by simp[ids]))) fun _ _=>pA_ 3 ?_
 refine Cd_ rfl (fun h5=>?_) fun h5=>?_
 ·refine pA_ 8 ?_
  have e1:goodK c (gl.map Prod.fst)=1:=by unfold goodK;rw[if_neg (by simpa using h5)]
  rw[e1]
  exact fb_
 ·have hsh:shapeK c (gl.map Prod.fst)=true:=by simpa using h5
  refine pA_ 5 ?_
  refine Lv (Lw (l:=klC c (.slice gp gl.length gc)))<|Le (CV fun w hw=>longA_c c gl gp gc hl w (hw.slAt h (by simp[ids])) hsh) fun _ _=>Nl<|Ps ?_
  refine Cd_ rfl (fun h7=>?_) fun h7=>?_
  ·refine pA_ 8 ?_
   have e1:goodK c (gl.map Prod.fst)=5:=by unfold goodK;rw[if_pos hsh,if_pos (by simpa using h7)]
   rw[e1]
   exact fb_
  ·refine pA_ 9 ?_
   have e1:goodK c (gl.map Prod.fst)=0:=by unfold goodK;rw[if_pos hsh,if_neg (by simpa using h7)]
   rw[e1]
   exact fb_
end
section
attribute [local irreducible] V.CW V.LW V.QW V.RW V.PQ V.Val V.Eff V.Qcall
open V (str byC ownV ownG ownS ownOk)
instance:Cal Tryz.prog 7:=⟨Tryz.call7⟩
instance:Cal Tryz.prog 205:=⟨Tryz.call205⟩
instance:Cal Tryz.prog 206:=⟨Tryz.call206⟩
instance:Cal Tryz.prog 207:=⟨Tryz.call207⟩
instance:Cal Tryz.prog 211:=⟨Tryz.call211⟩
instance:Cal Tryz.prog 212:=⟨Tryz.call212⟩
instance:Cal Tryz.prog 213:=⟨Tryz.call213⟩
instance:Cal Tryz.prog 222:=⟨Tryz.call222⟩
def wkC (x:ArR)(t:Int)(f:Frm)(o:FrO):List Value:= .pointer (some ⟨x.a,0,none⟩):: .int .i64 t::frC f o
abbrev wsS (wb:Nat)(T:TypeId)(x:ArR)(t:Int)(f:Frm)(o:FrO)(s:ArS)(xd:DvR)(v:Dev):Sg:=[(wb,.cells (wkC x t f o).toArray T (0,0))]::(frS f o++(arS x s xd.db++vS xd v))
structure ArG (th n:Nat)(x:ArR)(s:ArS)(a:AS):Prop where
 ok:ArOk th n x s
 is:ArIs x s a
 R:s.rg.R.length≤1900
def sizeK (c:Kal):Int:=if c.k=2 then(c.key.length:Int)+c.val.length else if c.k=4 then(c.val.length:Int) else 0
def bytesK (c:Kal):List UInt8:=if c.k=2 then c.key++c.val else if c.k=4 then c.val else[]
def enterE (a:AS)(t:Int)(f:Frm):Int:=if goodK f.c f.g=0 then rEnterE a.rd t else goodK f.c f.g
def enterA (a:AS)(t:Int)(f:Frm):AS:=if goodK f.c f.g=0 then {a with rd:=rEnter a.rd t} else a
def enterF (a:AS)(t:Int)(f:Frm):Frm:=if enterE a t f=0 then {f with ep:=a.ck.now} else {f with an:={f.an with code:=enterE a t f},ph:=7}
def failF (f:Frm)(e:Int):Frm:={f with an:={f.an with code:=e},ph:=6}
theorem ffail_g (wb:Nat)(T:TypeId)(x:ArR)(t:Int)(f:Frm)(o:FrO)(e0:Int):Mo Tryz.prog 170 [.pointer (some ⟨wb,2,none⟩),.int .i64 e0] [[(wb,.cells (wkC x t f o).toArray T (0,0))]] (fun _u:Unit=>True) (fun _=> .tuple #[]) (fun _=>[[(wb,.cells (wkC x t (failF f e0) o).toArray T (0,0))]]):=by
 intro w hs
 refine Ca_ Tryz.func170 rfl Tryz.ntmps170 hs<|pA_ 7 ?_
 refine LeN (sx_ (wkC x t ({f with an:={f.an with code:=e0}}) o)) fun _ _=>Lv Nz<|Lv (Fa 5 3)<|LeN (sx_ (wkC x t (failF f e0) o)) fun _ _=>Nl<|PQ.end0 rfl ?_
 intro w' hw;exact⟨(),trivial,rfl,hw⟩
theorem fsize_g (c:Kal)(g:Value)(hg:g.oneCell'=true)(hl:c.key.length≤100000∧c.val.length≤100000):Rz Tryz.prog 172 [.agg (klC c g).toArray] (.int .i64 (sizeK c)):=by
 intro w
 refine Cb_ Tryz.func172 rfl Tryz.ntmps172<|Sq<|Rg<|Le XA fun b1 _=>pA_ 7 ?_
 refine Lv (Ld (v:= .int .i64 c.k))<|pA_ 9 ?_
 refine Cd_ rfl (fun h5=>?_) fun h5=>?_
 ·have h5:c.k=2:=h5
  refine pA_ 3 ?_
  refine Lv (Ld (v:=str c.key))<|Lv LnS<|Lv (Fa 2 9)<|Lv (Ld (v:=str c.val))<|pA_ 9 ?_
  intro w' hw;exact⟨by unfold sizeK;simp_all,hw.below⟩
 ·have h5:¬c.k=2:=h5
  refine pA_ 6 ?_
  refine Cd_ rfl (fun h14=>?_) fun h14=>?_
  ·have h14:c.k=4:=h14
   refine pA_ 3 ?_
   refine Lv (Ld (v:=str c.val))<|pA_ 8 ?_
   intro w' hw;exact⟨by unfold sizeK;simp_all,hw.below⟩
  ·have h14:¬c.k=4:=h14
   refine pA_ 10 ?_
   intro w' hw;exact⟨by unfold sizeK;simp_all,hw.below⟩
theorem fbytes_g (c:Kal)(g:Value)(hg:g.oneCell'=true)(hl:c.key.length≤100000∧c.val.length≤100000):Rz Tryz.prog 214 [.agg (klC c g).toArray] (str (bytesK c)):=by
 intro w
 refine Cb_ Tryz.func214 rfl Tryz.ntmps214<|Sq<|Rg<|Le XA fun b1 _=>pA_ 7 ?_
 refine Lv (Ld (v:= .int .i64 c.k))<|pA_ 9 ?_
 refine Cd_ rfl (fun h5=>?_) fun h5=>?_
 ·have h5:c.k=2:=h5
  refine pA_ 3 ?_
  refine Lv (Ld (v:=str c.key))<|Lv (Fa 2 9)<|Lv (Ld (v:=str c.val))<|Lv (Val.catStr rfl rfl (by first|omega|(simp only[List.length_append,List.length_cons,List.length_nil];omega)))<|pA_ 7 ?_
  intro w' hw;exact⟨by unfold bytesK;first|(simp_all;done)|(simp_all;rfl),hw.below⟩
 ·have h5:¬c.k=2:=h5
  refine pA_ 6 ?_
  refine Cd_ rfl (fun h12=>?_) fun h12=>?_
  ·have h12:c.k=4:=h12
   refine pA_ 3 ?_
   refine Lv (Ld (v:=str c.val))<|pA_ 7 ?_
   intro w' hw;exact⟨by unfold bytesK;first|(simp_all;done)|(simp_all;rfl),hw.below⟩
  ·have h12:¬c.k=4:=h12
   refine pA_ 10 ?_
   intro w' hw;exact⟨by unfold bytesK;first|(simp_all;done)|(simp_all;rfl),hw.below⟩
def ArS.rdTo (s:ArS)(r:Rdr):ArS:={s with rd:=r}
def ArS.plTo (s:ArS)(L:List Slb):ArS:={s with L:=L}
theorem ArG.rdTo {th n:Nat}{x:ArR}{s:ArS}{a:AS}(h:ArG th n x s a)(r:Rdr)(hr:r.has.length=a.rd.has.length):ArG th n x (s.rdTo r) {a with rd:=r}:=
 ⟨⟨h.ok.pl,h.ok.sl,by show r.has.length=th;rw[hr,← h.is.rd];exact h.ok.rd,h.ok.ck,h.ok.bg,h.ok.tb,h.ok.od,h.ok.rg,h.ok.ef⟩,⟨h.is.L,rfl,h.is.ck,h.is.bg,h.is.Tz,h.is.D,h.is.q,h.is.id,h.is.ver,h.is.ef⟩,h.R⟩
theorem ArG.plTo {th n:Nat}{x:ArR}{s:ArS}{a:AS}(h:ArG th n x s a)(L:List Slb)(hp:plOk L)(hl:L.length=a.L.length):ArG th n x (s.plTo L) {a with L:=L}:=
 ⟨⟨hp,by show L.length=_;rw[hl,← h.is.L];exact h.ok.sl,h.ok.rd,h.ok.ck,h.ok.bg,h.ok.tb,h.ok.od,h.ok.rg,h.ok.ef⟩,⟨rfl,h.is.rd,h.is.ck,h.is.bg,h.is.Tz,h.is.D,h.is.q,h.is.id,h.is.ver,h.is.ef⟩,h.R⟩
def leaveA (a:AS)(t:Int):AS:={a with rd:=rLeave a.rd t}
def leaveF (f:Frm):Frm:={f with ph:=7}
theorem fleave_g (wb:Nat)(T:TypeId)(x:ArR)(t:Int)(f:Frm)(o:FrO)(s:ArS)(xd:DvR)(v:Dev)(th n:Nat)(a:AS)(hG:ArG th n x s a)(hF:FrOk f o):Mo Tryz.prog 175 [.pointer (some ⟨x.a,0,none⟩),.int .i64 t,.pointer (some ⟨wb,2,none⟩)] (wsS wb T x t f o s xd v) (fun s2:ArS=>ArG th n x s2 (leaveA a t)) (fun _=> .tuple #[]) (fun s2=>wsS wb T x t (leaveF f) o s2 xd v):=by
 intro w hs
 refine Ca_ Tryz.func175 rfl Tryz.ntmps175 hs<|pA_ 3 ?_
 refine Le (CV fun w hw=>areaders_g x s w hw.at) fun _ _=>Lv Mv<|Le (Cm_ (rleave_g x.rb x.hb s.rd t)) fun _ _=>pA_ 6 ?_
 refine LeN (sx_ (wkC x t (leaveF f) o)) fun _ _=>Nl<|PQ.end0 rfl ?_
 exact fi_ (s.rdTo (rLeave s.rd t)) (by rw[leaveA,← hG.is.rd];exact hG.rdTo _ (by rw[rLeave_len,hG.is.rd]))
theorem fenter_g (wb:Nat)(T:TypeId)(x:ArR)(t:Int)(f:Frm)(o:FrO)(s:ArS)(xd:DvR)(v:Dev)(th n:Nat)(a:AS)(hG:ArG th n x s a)(hF:FrOk f o)(hgl:f.g.length≤3000)(hck:a.ck.Ok th):Mo Tryz.prog 164 [.pointer (some ⟨x.a,0,none⟩),.int .i64 t,.pointer (some ⟨wb,2,none⟩)] (wsS wb T x t f o s xd v) (fun s2:ArS=>ArG th n x s2 (enterA a t f)) (fun _=> .bool (decide (enterE a t f=0))) (fun s2=>wsS wb T x t (enterF a t f) o s2 xd v):=by
 intro w hs
 have hgz:=hF.gl
 obtain⟨gp,gc,hvg,hcg,hsg⟩:=own_slg (e:=79) kzC_len o.gz o.go hF.go
 have hcg2:o.gz.length≤gc:=hcg om_
 rw[hgz] at hvg
 have hck2:s.ck=ckk x.cb a.ck:=hG.is.ck
 refine Ca_ Tryz.func164 rfl Tryz.ntmps164 hs<|pA_ 10 ?_
 refine Lv (La (klC f.c (ownV f.g.length o.go)) (hl:=rfl))<|LW.re 11 (.agg (klC f.c (.slice gp o.gz.length gc)).toArray) rfl (by rw[hvg,hgz])<|Le (CV fun w hw=>good_g f.c o.gz gp gc ⟨hcg2,by omega⟩ w (hsg hw pk_)) fun _ _=>LW.re 12 (.int .i64 (goodK f.c f.g)) rfl (by rw[hF.gz])<|pA_ 10 ?_
 refine Cd_ rfl (fun h14=>?_) fun h14=>?_
 ·have h14:goodK f.c f.g=0:=h14
  refine Rg<|Lv Mv<|Le (CV fun w hw=>areaders_g x s w hw.at) fun _ _=>Lv Mv<|Le (Cm_ (renter_g x.rb x.hb s.rd t)) fun _ _=>LW.re 19 (.tuple #[.int .u64 (rEnterV a.rd t),.int .i64 (rEnterE a.rd t)]) rfl (by rw[hG.is.rd])<|pA_ 13 ?_
  refine Cd_ rfl (fun h23=>?_) fun h23=>?_
  ·have h23:¬rEnterE a.rd t=0:=h23
   refine pA_ 8 ?_
   refine LeN (sx_ (wkC x t ({f with an:={f.an with code:=rEnterE a.rd t}}) o)) fun _ _=>Lv Nz<|Lv (Fa 5 3)<|LeN (sx_ (wkC x t ({f with an:={f.an with code:=rEnterE a.rd t},ph:=7}) o)) fun _ _=>pA_ 10 ?_
   have e1:enterE a t f=rEnterE a.rd t:=if_pos h14
   have e2:enterA a t f={a with rd:=rEnter a.rd t}:=if_pos h14
   have e3:enterF a t f={f with an:={f.an with code:=rEnterE a.rd t},ph:=7}:=(if_neg (by rw[e1];exact h23)).trans (by rw[e1])
   rw[e3,e2,decide_eq_false (by rw[e1];exact h23)]
   exact fi_ (s.rdTo (rEnter s.rd t)) (by rw[← hG.is.rd];exact hG.rdTo _ (by rw[rEnter_len,hG.is.rd]))
  ·have h23:rEnterE a.rd t=0:=h23
   refine pA_ 6 ?_
   refine Le (CV fun w hw=>aclock_g x s w hw.at) fun _ _=>Le (CV fun w hw=>know_g x.cb x.wb a.ck w (by have h8:=hw.sat.pick (ss:=ckS x.cb x.wb s.ck) pk_;rw[hck2] at h8;exact h8)) fun _ _=>Lv Nz<|Lv (Fa 6 48)<|LeN (sx_ (wkC x t ({f with ep:=a.ck.now}) o)) fun _ _=>pA_ 9 ?_
   have e1:enterE a t f=rEnterE a.rd t:=if_pos h14
   have e2:enterA a t f={a with rd:=rEnter a.rd t}:=if_pos h14
   have e3:enterF a t f={f with ep:=a.ck.now}:=if_pos (by rw[e1];exact h23)
   rw[e3,e2,decide_eq_true (by rw[e1];exact h23)]
   exact fi_ (s.rdTo (rEnter s.rd t)) (by rw[← hG.is.rd];exact hG.rdTo _ (by rw[rEnter_len,hG.is.rd]))
 ·have h14:¬goodK f.c f.g=0:=h14
  refine pA_ 9 ?_
  refine Cd_ rfl (fun h23=>?_) fun h23=>?_
  ·have h23:¬goodK f.c f.g=0:=h23
   refine pA_ 8 ?_
   refine LeN (sx_ (wkC x t ({f with an:={f.an with code:=goodK f.c f.g}}) o)) fun _ _=>Lv Nz<|Lv (Fa 5 3)<|LeN (sx_ (wkC x t ({f with an:={f.an with code:=goodK f.c f.g},ph:=7}) o)) fun _ _=>pA_ 10 ?_
   have e1:enterE a t f=goodK f.c f.g:=if_neg h14
   have e2:enterA a t f=a:=if_neg h14
   have e3:enterF a t f={f with an:={f.an with code:=goodK f.c f.g},ph:=7}:=(if_neg (by rw[e1];exact h23)).trans (by rw[e1])
   rw[e3,e2,decide_eq_false (by rw[e1];exact h23)]
   exact fi_ s hG
  ·have h23:goodK f.c f.g=0:=h23
   refine pA_ 6 ?_
   refine Le (CV fun w hw=>aclock_g x s w hw.at) fun _ _=>Le (CV fun w hw=>know_g x.cb x.wb a.ck w (by have h8:=hw.sat.pick (ss:=ckS x.cb x.wb s.ck) pk_;rw[hck2] at h8;exact h8)) fun _ _=>Lv Nz<|Lv (Fa 6 48)<|LeN (sx_ (wkC x t ({f with ep:=a.ck.now}) o)) fun _ _=>pA_ 9 ?_
   have e1:enterE a t f=goodK f.c f.g:=if_neg h14
   have e2:enterA a t f=a:=if_neg h14
   have e3:enterF a t f={f with ep:=a.ck.now}:=if_pos (by rw[e1];exact h23)
   rw[e3,e2,decide_eq_true (by rw[e1];exact h23)]
   exact fi_ s hG
def takeC (m:Int):Int:=needF m
def takeA (a:AS)(m:Int):AS:={a with L:=(ptakeF a.L (needF m)).1}
def takeLn (a:AS)(m:Int):Int:=(ptakeF a.L (needF m)).2.1
def takeE (a:AS)(m:Int):Int:=(ptakeF a.L (needF m)).2.2
def gbA (a:AS)(f:Frm):AS:={a with L:=(giveF a.L f.line).1}
def gbF (f:Frm):Frm:={f with line:= -1}
theorem ptakeF_len (L:List Slb)(c:Int):(ptakeF L c).1.length=L.length:=by
 unfold ptakeF
 split
 ·rfl
 ·split
  ·rfl
  ·split<;>simp
theorem fgive_g (wb:Nat)(T:TypeId)(x:ArR)(t:Int)(f:Frm)(o:FrO)(s:ArS)(xd:DvR)(v:Dev)(th n:Nat)(a:AS)(hG:ArG th n x s a)(hF:FrOk f o):Mo Tryz.prog 167 [.pointer (some ⟨x.a,0,none⟩),.pointer (some ⟨wb,2,none⟩)] (wsS wb T x t f o s xd v) (fun s2:ArS=>ArG th n x s2 (gbA a f)) (fun _=> .tuple #[]) (fun s2=>wsS wb T x t (gbF f) o s2 xd v):=by
 intro w hs
 refine Ca_ Tryz.func167 rfl Tryz.ntmps167 hs<|Sq<|Dr ([[(wb,.cells (wkC x t f o).toArray T (0,0))],[(x.a,.cells (arC x s).toArray 77 (0,0))]])<|pR_ [0,2,3,4] ?_
 refine Rv 5 rfl (Ld (v:= .int .i64 f.line))<|Re 1 rfl (CV fun w hw=>apool_g x s w hw.at) fun _ _=>Re 6 rfl (Cm_ (give_c x.pb x.sb s.L f.line hG.ok.pl)) fun _ _=>pA_ 6 ?_
 refine LeN (sx_ (wkC x t (gbF f) o)) fun _ _=>Nl<|PQ.end0 rfl ?_
 exact fi_ (s.plTo (giveF s.L f.line).1) (by rw[gbA,← hG.is.L];exact hG.plTo _ (giveF_ok hG.ok.pl) (by rw[giveF_len,hG.is.L]))
theorem ftake_g (x:ArR)(s:ArS)(db th n:Nat)(a:AS)(hG:ArG th n x s a)(m:Int)(hm: -100000≤m∧m≤100000):Mo Tryz.prog 171 [.pointer (some ⟨x.a,0,none⟩),.int .i64 m] (arS x s db) (fun s2:ArS=>ArG th n x s2 (takeA a m)) (fun _=> .tuple #[.int .i64 (takeLn a m),.int .i64 (takeC m),.int .i64 (takeE a m)]) (fun s2=>arS x s2 db):=by
 intro w hs
 refine Ca_ Tryz.func171 rfl Tryz.ntmps171 hs<|pA_ 10 ?_
 refine Le (Cz_ (need_c m)) fun _ _=>pA_ 6 ?_
 refine Le (CV fun w hw=>apool_g x s w hw.at) fun _ _=>Lv Mv<|Le (Cm_ (ptake_c x.pb x.sb s.L (needF m) hG.ok.pl)) fun _ _=>pA_ 18 ?_
 refine Rt3 ?_
 intro w' hw;exact⟨s.plTo (ptakeF s.L (needF m)).1,by rw[takeA,← hG.is.L];exact hG.plTo _ (ptakeF_ok hG.ok.pl) (by rw[ptakeF_len,hG.is.L]),by unfold takeLn takeE takeC;rw[← hG.is.L],hw.pick pk_⟩
end
end G
end Go.Proofs.YtjidffamcdcecaaGreat
