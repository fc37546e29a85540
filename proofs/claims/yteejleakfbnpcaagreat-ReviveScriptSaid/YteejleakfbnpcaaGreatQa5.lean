import Derived.Test.YteejleakfbnpcaaGreatQa4
/- What the law leans on, part 5. -/
namespace Go.Proofs.YteejleakfbnpcaaGreat
open Go Go.RowKit V
set_option linter.unusedVariables false
set_option maxRecDepth 100000
set_option maxHeartbeats 1000000
namespace G
section
attribute [local irreducible] V.CW V.LW V.QW V.RW V.PQ V.Val V.Eff V.Qcall
open V (str byC ownV ownG ownS ownOk)
instance:Und Tryz.prog 30 (dOf Tryz.underlying30):=⟨Tryz.underlying30⟩
instance:Siz Tryz.prog 30 (kOf Tryz.sizeOf30):=⟨Tryz.sizeOf30⟩
instance:AgF Tryz.prog 30:=⟨Tryz.isAgg30⟩
instance:Cal Tryz.prog 29:=⟨Tryz.call29⟩
instance:Cal Tryz.prog 43:=⟨Tryz.call43⟩
instance:Cal Tryz.prog 44:=⟨Tryz.call44⟩
instance:Cal Tryz.prog 51:=⟨Tryz.call51⟩
instance:Cal Tryz.prog 81:=⟨Tryz.call81⟩
instance:Cal Tryz.prog 82:=⟨Tryz.call82⟩
instance:Cal Tryz.prog 138:=⟨Tryz.call138⟩
instance:Cal Tryz.prog 153:=⟨Tryz.call153⟩
instance:Cal Tryz.prog 154:=⟨Tryz.call154⟩
instance:Cal Tryz.prog 204:=⟨Tryz.call204⟩
theorem own_sl {T g c:Nat}{l:List UInt8}{r:List Value}(hy:ownOk 1 l.length (byC l) (some (g,r,c))){B:V.Base}{sg rr:V.Sg}{w:World}(hw:Hp B sg w)(hp:Pick [ownG T (byC l) (some (g,r,c))] sg rr):V.slAt w (some ⟨g,0,none⟩) 1 byE l:=by
 obtain⟨p,c2,h1,_,h2⟩:=own_srcT (T:=T) hy
 have h3:some ⟨g,0,none⟩=p:=by
  have h4:Value.slice (some ⟨g,0,none⟩) l.length c= .slice p l.length c2:=h1
  injection h4
 rw[h3]
 exact h2 hw hp
theorem own64T {T:TypeId}(b:B64)(o:V.OwnO)(ho:ownOk 1 b.1.length (byC b.1) o):∃(p:Option Addr) (cp:Nat),ownV b.1.length o= .slice p 64 cp∧64≤cp∧∀{B:V.Base} {sg r:V.Sg} {w:World},Hp B sg w→Pick [ownG T (byC b.1) o] sg r→V.slAt w p 1 byE b.1:=by
 obtain⟨p,c,h1,h2,h3⟩:=own_srcT (T:=T) ho
 rw[b.2] at h1 h2
 exact⟨p,c,by rw[b.2];exact h1,h2,h3⟩
theorem rformat_g (x:DvR)(v:Dev)(hm:10≤v.D.length∧v.D.length≤258):Mo Tryz.prog 28 [.pointer (some ⟨x.db,0,none⟩)] (rvS3 x v) (fun _u:Unit=>True) (fun _=> .int .i64 0) (fun _=>rvS3 x (fmtV v)):=by
 intro w hs
 refine Ca_ Tryz.func28 rfl Tryz.ntmps28 hs<|pA_ 21 ?_
 refine Lv (Ld (v:= .slice (some ⟨x.cb,0,none⟩) v.D.length x.cap))<|Lv Ln<|Lv Cm<|LW.re 12 (.bool false) rfl (by congr 1;simp;omega)<|pA_ 10 ?_
 refine Lv (Ld (v:= .slice (some ⟨x.cb,0,none⟩) v.D.length x.cap))<|Lv Ln<|Le (Cn_ (rsuper_c v.D.length om_)) fun o1 ho1=>?_
 obtain⟨g1,r1,c1,rfl⟩:=own_some ho1 om_
 refine Lv Mv<|Lv Ex<|Lv Ex<|Lv Av<|Lv Av<|Nl<|Ps<|Sq<|Rg<|Lv Mv<|Lv Mv<|Le (CM (rvS3 x v) fun w hw hs0=>by have h8:=rstore_gc x v.D v.k 0 0 (superL (v.D.length:Nat)) (some ⟨g1,0,none⟩) c1 (by rw[superL_len];omega) w hs0 (own_sl (by rw[superL_len];exact ho1) hw pk_) (fun _ b o hb=>by simp only[Option.some.injEq,Addr.mk.injEq] at hb;obtain⟨rfl,_⟩:=hb;exact not_in hw (show Pick (rvS3 x v) _ _ from pk_) (show InS (g1,.cells (byC (superL (v.D.length:Nat))++r1).toArray 5 (0,0)) _ from in_));rw[superL_len] at h8;exact h8) fun _ _=>Nl<|Ps<|Sq<|Rg<|Lv Mv<|Le (Cn_ (rclock_c 0 om_)) fun o2 ho2=>?_
 obtain⟨g2,r2,c2,rfl⟩:=own_some ho2 om_
 refine Le (CM (rvS3 x (v.store 0 0 (superL (v.D.length:Nat)))) fun w hw hs0=>by have h8:=rstore_gc x (v.store 0 0 (superL (v.D.length:Nat))).D (v.store 0 0 (superL (v.D.length:Nat))).k 1 0 (clockL 0) (some ⟨g2,0,none⟩) c2 (by rw[clockL_len];omega) w hs0 (own_sl (by rw[clockL_len];exact ho2) hw pk_) (fun _ b o hb=>by simp only[Option.some.injEq,Addr.mk.injEq] at hb;obtain⟨rfl,_⟩:=hb;exact not_in hw (show Pick (rvS3 x (v.store 0 0 (superL (v.D.length:Nat)))) _ _ from pk_) (show InS (g2,.cells (byC (clockL 0)++r2).toArray 5 (0,0)) _ from in_));rw[clockL_len] at h8;exact h8) fun _ _=>Nl<|Ps<|Sq<|Rg<|Lv Mv<|Le (Cm_ (rflush_g x ((v.store 0 0 (superL (v.D.length:Nat))).store 1 0 (clockL 0)).D ((v.store 0 0 (superL (v.D.length:Nat))).store 1 0 (clockL 0)).k 0)) fun _ _=>Nl<|Ps<|Sq<|Rg<|Lv Mv<|Le (Cm_ (rflush_g x (((v.store 0 0 (superL (v.D.length:Nat))).store 1 0 (clockL 0)).flush 0).D (((v.store 0 0 (superL (v.D.length:Nat))).store 1 0 (clockL 0)).flush 0).k 1)) fun _ _=>Nl<|Ps<|Sq<|Rg<|Lv Mv<|Le (Cm_ (rfence_g x ((((v.store 0 0 (superL (v.D.length:Nat))).store 1 0 (clockL 0)).flush 0).flush 1).D ((((v.store 0 0 (superL (v.D.length:Nat))).store 1 0 (clockL 0)).flush 0).flush 1).k (by rw[Dev.flush_len,Dev.flush_len,Dev.store_len,Dev.store_len];omega))) ?_
 intro _ _
 refine pA_ 9 ?_
 exact fi_ () trivial
theorem refopen_g (x:DvR)(v:Dev)(hL:10≤v.D.length∧v.D.length≤1000):Mo Tryz.prog 34 [.pointer (some ⟨x.db,0,none⟩)] (rvS3 x v) (fun _u:Unit=>True) (fun _=> .tuple #[.int .u64 (openF v.D).1,.int .i64 (openF v.D).2]) (fun _=>rvS3 x v):=by
 intro w hs
 obtain⟨c0,h0⟩:∃c,v.D[0]? =some c:=⟨v.D[0]'om_,by simp⟩
 obtain⟨c1,h1⟩:∃c,v.D[1]? =some c:=⟨v.D[1]'om_,by simp⟩
 refine Ca_ Tryz.func34 rfl Tryz.ntmps34 hs<|pA_ 19 ?_
 refine Le (Cm_ (rload_g x v.D v.k 0)) fun o1 ho1=>?_
 rw[show((0:Int))=((0:Nat):Int) from rfl,nowL_of h0,in_of h0] at*
 obtain⟨po1,cpo1,hvo1,hcpo1,hslo1⟩:=own64T (T:=125) c0.now o1 ho1
 refine Lv Mv<|Lv Ex<|LW.re 17 (.slice po1 64 cpo1) rfl hvo1<|pA_ 8 ?_
 refine Le (CV fun w hw=>risSuper_c c0.now po1 cpo1 w (hslo1 hw pk_)) fun _ _=>pA_ 10 ?_
 refine Le (Cm_ (rload_g x v.D v.k 1)) fun o2 ho2=>?_
 rw[show((1:Int))=((1:Nat):Int) from rfl,nowL_of h1,in_of h1] at*
 obtain⟨po2,cpo2,hvo2,hcpo2,hslo2⟩:=own64T (T:=125) c1.now o2 ho2
 refine Lv Mv<|Lv Ex<|LW.re 27 (.slice po2 64 cpo2) rfl hvo2<|pA_ 8 ?_
 refine Le (CV fun w hw=>risClock_c c1.now po2 cpo2 hcpo2 w (hslo2 hw pk_)) fun _ _=>pA_ 13 ?_
 refine LW.split (d:=36) rfl (fun h36=>?_) (fun h36=>?_)
 ·replace h36:=bT h36
  have h36:(isSuperF c0.now).2=false:=by simpa using h36
  refine pA_ 24 ?_
  have e8:openF v.D=(0,3):=by
   unfold openF
   rw[h0]
   show(if _ then _ else _)=_
   rw[if_pos (.inl (by simpa using h36))]
  rw[e8]
  exact fi_ () trivial
 ·replace h36:=bF h36
  have h36:(isSuperF c0.now).2=true:=by simpa using h36
  refine pA_ 4 ?_
  refine Lv (Ld (v:= .slice (some ⟨x.cb,0,none⟩) v.D.length x.cap))<|pA_ 4 ?_
  refine LW.split (d:=45) rfl (fun h45=>?_) (fun h45=>?_)
  ·replace h45:=bT h45
   have h45:(isSuperF c0.now).1≠(v.D.length:Nat):=h45
   refine pA_ 15 ?_
   have e8:openF v.D=(0,3):=by
    unfold openF
    rw[h0]
    show(if _ then _ else _)=_
    rw[if_pos (.inr h45)]
   rw[e8]
   exact fi_ () trivial
  ·replace h45:=bF h45
   have h44:(isSuperF c0.now).1=(v.D.length:Nat):=h45
   refine pA_ 5 ?_
   refine Cd_ rfl (fun h48=>?_) fun h48=>?_
   ·have h48:(isClockF c1.now).2=false:=by simpa using h48
    refine pA_ 9 ?_
    have e8:openF v.D=(0,3):=by
     unfold openF
     rw[h0]
     show(if _ then _ else _)=_
     rw[if_neg (by rintro(h|h);exact absurd h (by simp[h36]);exact h h44),h1]
     exact if_pos (by simpa using h48)
    rw[e8]
    exact fi_ () trivial
   ·have h48:(isClockF c1.now).2=true:=by simpa using h48
    refine pA_ 9 ?_
    refine Cd_ rfl (fun h50=>?_) fun h50=>?_
    ·refine pA_ 9 ?_
     have e8:openF v.D=(0,10):=by
      unfold openF
      rw[h0]
      show(if _ then _ else _)=_
      rw[if_neg (by rintro(h|h);exact absurd h (by simp[h36]);exact h h44),h1]
      show(if _ then _ else _)=_
      rw[if_neg (by simpa using h48),if_pos om_]
     rw[e8]
     exact fi_ () trivial
    ·refine pA_ 11 ?_
     have e8:openF v.D=((isClockF c1.now).1,0):=by
      unfold openF
      rw[h0]
      show(if _ then _ else _)=_
      rw[if_neg (by rintro(h|h);exact absurd h (by simp[h36]);exact h h44),h1]
      show(if _ then _ else _)=_
      rw[if_neg (by simpa using h48),if_neg om_]
     rw[e8]
     exact fi_ () trivial
theorem cap0:capF ((0:Nat):Int)=28∧capF ((1:Nat):Int)=91∧capF ((2:Nat):Int)=217∧capF ((3:Nat):Int)=469:=by decide
theorem need_at {n:Int}{k:Nat}(hk:k≤3)(h0:0≤n)(h:n≤capF k)(hl:∀j:Nat,j<k→capF j<n):needF n=k:=by
 obtain⟨q0,q1,q2,q3⟩:=cap0
 have hkk:k=0∨k=1∨k=2∨k=3:=by omega
 unfold needF
 rw[if_neg om_]
 rcases hkk with rfl|rfl|rfl|rfl
 ·rw[if_pos om_];rfl
 ·have a0:=hl 0 om_
  rw[if_neg om_,if_pos om_];rfl
 ·have a0:=hl 0 om_
  have a1:=hl 1 om_
  rw[if_neg om_,if_neg om_,if_pos om_];rfl
 ·have a0:=hl 0 om_
  have a1:=hl 1 om_
  have a2:=hl 2 om_
  rw[if_neg om_,if_neg om_,if_neg om_,if_pos om_];rfl
theorem need_no {n:Int}(hl:0≤n→∀j:Nat,j<4→capF j<n):needF n= -1:=by
 obtain⟨q0,q1,q2,q3⟩:=cap0
 unfold needF
 by_cases h:n<0
 ·rw[if_pos h]
 have h0:=hl om_
 have a0:=h0 0 om_
 have a1:=h0 1 om_
 have a2:=h0 2 om_
 have a3:=h0 3 om_
 rw[if_neg h,if_neg om_,if_neg om_,if_neg om_,if_neg om_]
theorem rneed_c (n:Int):Rz Tryz.prog 137 [.int .i64 n] (.int .i64 (needF n)):=by
 intro w
 refine Cb_ Tryz.func137 rfl Tryz.ntmps137<|pA_ 12 ?_
 refine loopA (γ:=Nat) (fun k=>[(0,.int .i64 n),(3,.int .i64 (k:Nat))]) (fun _=>[]) (fun k=>k≤4∧(0≤n→∀j:Nat,j<k→capF j<n)) (fun k=>4-k) (0) ⟨Nat.zero_le _,fun _ j hj=>absurd hj (Nat.not_lt_zero j)⟩ fun k=>?_
 rintro⟨hk1,hk2⟩
 refine pA_ 7 ?_
 refine Cd_ rfl (fun h5=>?_) fun h5=>?_
 ·refine pA_ 9 ?_
  refine LW.split (d:=10) rfl (fun h10=>?_) (fun h10=>?_)
  ·replace h10:=bT h10
   refine Lv Mv<|Le (Cz_ (rcap_c (k:Nat))) fun _ _=>pA_ 5 ?_
   refine Cd_ rfl (fun h15=>?_) fun h15=>?_
   ·refine pA_ 13 ?_
    intro w' hw;exact⟨by rw[need_at om_ h10 h15 (hk2 h10)],hw.below⟩
   ·refine pA_ 8 ?_
    exact roundA (k+1) ⟨by omega,fun h0 j hj=>by rcases Nat.lt_succ_iff_lt_or_eq.1 hj with h|h;exact hk2 h0 j h;subst h;omega⟩ om_
  ·replace h10:=bF h10
   refine pA_ 16 ?_
   exact roundA (k+1) ⟨by omega,fun h0 j hj=>by rcases Nat.lt_succ_iff_lt_or_eq.1 hj with h|h;exact hk2 h0 j h;subst h;omega⟩ om_
 ·refine pA_ 12 ?_
  have hk9:k=4:=by omega
  subst hk9
  rw[need_no hk2]
  exact fb_
theorem rstarts_c (k c:Int):Mz Tryz.prog 153 [.int .i64 k,.int .i64 c] (fun o:V.OwnO=>ownOk 1 (startsF k c).length ((startsF k c).flatMap inI) o) (fun o=>ownV (startsF k c).length o) (fun o=>[ownG 3 ((startsF k c).flatMap inI) o]):=by
 intro w
 refine Cb_ Tryz.func153 rfl Tryz.ntmps153<|pA_ 14 ?_
 refine Le (Cz_ (rslab_c k)) fun _ _=>Lv Cm<|Lv Mv ?_
 refine LW.split (d:=10) rfl (fun h10=>?_) (fun h10=>?_)
 ·replace h10:=bT h10
  refine pA_ 16 ?_
  have hse:startsF k c=[]:=by unfold startsF;rw[if_pos om_]
  rw[hse]
  intro w' hw;exact⟨none,⟨rfl,rfl⟩,rfl,hw.perm (.refl _)⟩
 ·replace h10:=bF h10
  refine Lv Mv<|Le (Cz_ (rspan_c c)) fun _ _=>pA_ 4 ?_
  refine Cd_ rfl (fun h14=>?_) fun h14=>?_
  ·refine pA_ 9 ?_
   have hse:startsF k c=[]:=by unfold startsF;rw[if_pos om_]
   rw[hse]
   intro w' hw;exact⟨none,⟨rfl,rfl⟩,rfl,hw.perm (.refl _)⟩
  ·have hsp:spanF c=1∨spanF c=2∨spanF c=4∨spanF c=8:=by rcases spanF_cases c with⟨_,h⟩|⟨_,h⟩|⟨_,h⟩|⟨_,h⟩|⟨_,h⟩<;>omega
   have hsl:0≤slabF k∧slabF k≤258:=by
    refine⟨by omega,?_⟩
    unfold slabF;split<;>omega
   have hse:startsF k c=(List.range (8/spanF c)).map fun i:Nat=>slabF k+(i:Nat)*(spanF c:Nat):=by unfold startsF;rw[if_neg om_]
   refine pA_ 9 ?_
   refine V.CW.perm (sg':=[ownG 3 ((((List.range 0).map fun i:Nat=>slabF k+(i:Nat)*(spanF c:Nat))).flatMap inI) none]) ?_ (.refl _)
   refine CW.loop (γ:=Nat×V.OwnO) (fun j=>[(0,.int .i64 k),(1,.int .i64 c),(5,ownV j.1 j.2),(6,.int .i64 ((j.1:Nat)*(spanF c:Nat)))]) (fun j=>[ownG 3 (((List.range j.1).map fun i:Nat=>slabF k+(i:Nat)*(spanF c:Nat)).flatMap inI) j.2]) (fun j=>j.1≤8/spanF c∧ownOk 1 j.1 (((List.range j.1).map fun i:Nat=>slabF k+(i:Nat)*(spanF c:Nat)).flatMap inI) j.2) (fun j=>8/spanF c-j.1) ((0,none)) ⟨Nat.zero_le _,⟨rfl,rfl⟩⟩ (by refine⟨rfl,rfl,rfl,?_,trivial⟩;simp[V.look]) pk_ ?_
   intro j
   rintro⟨hj1,hj2⟩
   have hd8:8/spanF c≤8:=Nat.div_le_self _ _
   refine pA_ 7 ?_
   refine Cd_ rfl (fun h17=>?_) fun h17=>?_
   ·have hj3:j.1<8/spanF c:=by rcases hsp with h|h|h|h<;>rw[h] at h17⊢ <;>omega
    refine Sk<|Ps<|Sq<|Bk<|Rg<|Lv Mv<|Lv Mv<|Le (Cz_ (rslab_c k)) fun _ _=>Lv Mv<|Lv (Val.ar (r:=(slabF k+(j.1:Nat)*(spanF c:Nat))) rfl rfl rfl (IntWalk.i64_in _ (by rcases hsp with h|h|h|h<;>rw[h] at hj3⊢ <;>omega)))<|Le (Eff.buildSlice (rfl) [_] Tryz.underlying24 Tryz.sizeOf3 (by exact Tryz.zeroValue3) rfl rfl rfl rfl (by rfl)) fun b27 _=>Le (Eff.appendAny (inI (slabF k+(j.1:Nat)*(spanF c:Nat))) (sz:=1) (bytes:=8) (z:= .int .i64 0) (xs:=((List.range j.1).map fun i:Nat=>slabF k+(i:Nat)*(spanF c:Nat)).flatMap inI) (m0:=j.1) (o:=j.2) (m:=1) (pk:=[ownG 3 (((List.range j.1).map fun i:Nat=>slabF k+(i:Nat)*(spanF c:Nat)).flatMap inI) (j.2)]) rfl rfl Tryz.underlying24 kr_ rfl om_ pk_ (by simp) hj2 (by rfl) (fun hm0=>⟨b27,0,rfl,fun w hw=>V.range_of_block (o:=0) (cs:=inI (slabF k+(j.1:Nat)*(spanF c:Nat))) (r:=[]) (hw.own _ (show InS (b27,.cells (inI (slabF k+(j.1:Nat)*(spanF c:Nat))).toArray 3 (0,0)) _ from in_).mem) rfl⟩) (by rfl) om_ (by rcases hsp with h|h|h|h<;>rw[h] at hj3<;>omega)) fun o2 ho2=>Lv Av<|Nl<|Bn<|Ps<|Rg<|Lv Mv<|Lv Mv<|Le (Cz_ (rspan_c c)) fun _ _=>Lv (Val.ar (r:=(j.1:Nat)*(spanF c:Nat)+(spanF c:Nat)) rfl rfl rfl (IntWalk.i64_in _ (by rcases hsp with h|h|h|h<;>rw[h] at hj3⊢ <;>omega)))<|Lv Av<|Nl ?_
    rw[← show(((List.range (j.1+1)).map fun i:Nat=>slabF k+(i:Nat)*(spanF c:Nat))).flatMap inI=((List.range j.1).map fun i:Nat=>slabF k+(i:Nat)*(spanF c:Nat)).flatMap inI++inI (slabF k+(j.1:Nat)*(spanF c:Nat)) by rw[List.range_succ,List.map_append,List.flatMap_append];rfl]
    refine PQ.round ((j.1+1,o2)) ⟨by simp only;omega,by simp only;rw[List.range_succ,List.map_append,List.flatMap_append];exact ho2⟩ (by simp only;omega) (by refine⟨rfl,rfl,rfl,?_,trivial⟩;exact congrArg (fun z=>some (Value.int .i64 z)) (by push_cast;rw[Int.add_mul,Int.one_mul])) pk_
   ·have hj9:j.1=8/spanF c:=by rcases hsp with h|h|h|h<;>rw[h] at h17 hj1⊢ <;>omega
    refine pA_ 13 ?_
    have hsln:(startsF k c).length=j.1:=by rw[hse,List.length_map,List.length_range,hj9]
    rw[hsln,hse,← hj9]
    exact fi_ j.2 hj2
theorem inI_at {l:List Int}{k:Nat}{y:Int}(h:l[k]? =some y)(r:List Value):(l.flatMap inI++r)[k]? =some (.int .i64 y):=by
 have hk:=(List.getElem?_eq_some_iff.1 h).1
 rw[inI_map,List.getElem?_append_left (by rw[List.length_map];exact hk),List.getElem?_map,h];rfl
theorem rhome_c (line c:Int):Rz Tryz.prog 84 [.int .i64 line,.int .i64 c] (.bool (homeF line c)):=by
 intro w
 refine Cb_ Tryz.func84 rfl Tryz.ntmps84<|pA_ 8 ?_
 refine Le (Cz_ (rslabOf_c line)) fun _ _=>Lv Mv<|Le (Cn_ (rstarts_c (slabOfF line) c)) fun o ho=>?_
 have hsl:=starts_len (slabOfF line) c
 refine pA_ 10 ?_
 refine loopA (γ:=Nat) (fun k=>[(0,.int .i64 line),(5,ownV (startsF (slabOfF line) c).length o),(6,.int .i64 (k:Nat))]) (fun k=>[ownG 3 ((startsF (slabOfF line) c).flatMap inI) o]) (fun k=>k≤(startsF (slabOfF line) c).length∧line∉(startsF (slabOfF line) c).take k) (fun k=>(startsF (slabOfF line) c).length-k) (0) ⟨Nat.zero_le _,by simp⟩ fun k=>?_
 rintro⟨hk1,hk2⟩
 refine pA_ 5 ?_
 refine Lv (Val.lenOwn rfl Tryz.underlying24 ho)<|pA_ 3 ?_
 refine Cd_ rfl (fun h14=>?_) fun h14=>?_
 ·have hk9:k<(startsF (slabOfF line) c).length:=by omega
  obtain⟨g,r,cp,rfl⟩:=own_some ho om_
  obtain⟨y,hy⟩:∃y,(startsF (slabOfF line) c)[k]? =some y:=⟨(startsF (slabOfF line) c)[k]'hk9,by simp⟩
  refine pA_ 9 ?_
  refine LW.re 19 (.pointer (some ⟨g,k,none⟩)) rfl (by simp)<|Lv (Ld (v:= .int .i64 y) (hl:=inI_at hy r))<|pA_ 4 ?_
  refine Cd_ rfl (fun h22=>?_) fun h22=>?_
  ·have h22:y=line:=h22
   refine pA_ 12 ?_
   have e8:homeF line c=true:=by unfold homeF;exact decide_eq_true (List.mem_of_getElem? (i:=k) (hy.trans (congrArg some h22)))
   rw[e8]
   exact fb_
  ·have h22:¬y=line:=h22
   have hk3:line∉(startsF (slabOfF line) c).take (k+1):=by
    rw[List.take_add_one,hy]
    simp[hk2,show ¬line=y from fun h=>h22 h.symm]
   refine pA_ 8 ?_
   exact roundA (k+1) ⟨by omega,hk3⟩ om_
 ·have hk9:(startsF (slabOfF line) c).length≤k:=by omega
  refine pA_ 12 ?_
  have e8:homeF line c=false:=by unfold homeF;exact decide_eq_false (by rw[List.take_of_length_le hk9] at hk2;exact hk2)
  rw[e8]
  exact fb_
theorem rnumber_c (v:Int):Rz Tryz.prog 136 [.int .u64 v] (.bool (numF v)):=by
 intro w
 refine Cb_ Tryz.func136 rfl Tryz.ntmps136<|pA_ 10 ?_
 refine LW.split (d:=5) rfl (fun h5=>?_) (fun h5=>?_)
 ·replace h5:=bT h5
  refine pA_ 8 ?_
  intro w' hw;exact⟨by congr 1;unfold numF;simp;omega,hw.below⟩
 ·replace h5:=bF h5
  refine pA_ 8 ?_
  intro w' hw;exact⟨by congr 1;unfold numF;simp;omega,hw.below⟩
theorem rhead_c (l:List UInt8)(p:Option Addr)(cp:Nat)(hl:l.length≤100000)(w:World)(hp:V.slAt w p 1 byE l):Calls Tryz.prog 83 [.slice p l.length cp].toArray w fun e w'=>e= .returned (headV (headF l))∧Below w.heap.size w w':=by
 refine Cb_ Tryz.func83 rfl Tryz.ntmps83<|pA_ 14 ?_
 refine LW.split (d:=8) rfl (fun h8=>?_) (fun h8=>?_)
 ·replace h8:=bT h8
  refine pA_ 29 ?_
  refine Rt3 ?_
  have e8:headF l=none:=by
   unfold headF
   refine if_neg ?_
   rintro⟨a1,a2,a3,a4⟩
   omega
  intro w' hw;exact⟨by rw[e8];rfl,hw.below⟩
 ·replace h8:=bF h8
  have h64:l.length=64:=by omega
  obtain⟨pb,po,u0,rfl,hpb,hu0,hpr⟩:=V.slAt_at hp rfl (k:=0) om_
  obtain⟨u1,hu1⟩:∃u,l[1]? =some u:=⟨l[1]'om_,by simp⟩
  obtain⟨u2,hu2⟩:∃u,l[2]? =some u:=⟨l[2]'om_,by simp⟩
  have hs1:=spanF_cases ((u1.toNat:Nat):Int)
  refine Lv Mv<|Lv (Val.indexAddrN (i:=0) rfl rfl Tryz.underlying54 Tryz.sizeOf5 om_)<|Lv (Val.loadO rfl Tryz.isAgg5 hpb (by simp[ids]) (hpr 0 u0 hu0 0 _ rfl))<|pA_ 3 ?_
  refine LW.split (d:=14) rfl (fun h14=>?_) (fun h14=>?_)
  ·replace h14:=bT h14
   refine pA_ 23 ?_
   refine Rt3 ?_
   have e8:headF l=none:=by
    unfold headF
    refine if_neg ?_
    rintro⟨a1,a2,a3,a4⟩
    rw[hu0,Option.some.injEq] at a2
    rw[hu1,Option.getD_some] at a3
    rw[hu2,Option.getD_some] at a4
    subst a2
    first|omega|(simp at*;done)|(simp at*;omega)
   intro w' hw;exact⟨by rw[e8];rfl,hw.below⟩
  ·replace h14:=bF h14
   refine Lv Mv<|Lv (Val.indexAddrN (i:=1) rfl rfl Tryz.underlying54 Tryz.sizeOf5 om_)<|Lv (Val.loadO rfl Tryz.isAgg5 hpb (by simp[ids]) (hpr 1 u1 hu1 0 _ rfl))<|pA_ 3 ?_
   refine LW.split (d:=20) rfl (fun h20=>?_) (fun h20=>?_)
   ·replace h20:=bT h20
    refine pA_ 17 ?_
    refine Rt3 ?_
    have e8:headF l=none:=by
     unfold headF
     refine if_neg ?_
     rintro⟨a1,a2,a3,a4⟩
     rw[hu0,Option.some.injEq] at a2
     rw[hu1,Option.getD_some] at a3
     rw[hu2,Option.getD_some] at a4
     subst a2
     first|omega|(simp at*;done)|(simp at*;omega)
    intro w' hw;exact⟨by rw[e8];rfl,hw.below⟩
   ·replace h20:=bF h20
    refine Lv Mv<|Lv (Val.indexAddrN (i:=2) rfl rfl Tryz.underlying54 Tryz.sizeOf5 om_)<|Lv (Val.loadO rfl Tryz.isAgg5 hpb (by simp[ids]) (hpr 2 u2 hu2 0 _ rfl))<|pA_ 4 ?_
    refine Cd_ rfl (fun h25=>?_) fun h25=>?_
    ·refine pA_ 9 ?_
     refine Rt3 ?_
     have e8:headF l=none:=by
      unfold headF
      refine if_neg ?_
      rintro⟨a1,a2,a3,a4⟩
      rw[hu0,Option.some.injEq] at a2
      rw[hu1,Option.getD_some] at a3
      rw[hu2,Option.getD_some] at a4
      subst a2
      first|omega|(simp at*;done)|(simp at*;omega)
     intro w' hw;exact⟨by rw[e8];rfl,hw.below⟩
    ·refine pA_ 3 ?_
     refine Qt<|Qv Mv<|Qv (Val.indexAddrN (i:=1) rfl rfl Tryz.underlying54 Tryz.sizeOf5 om_)<|Qv (Val.loadO rfl Tryz.isAgg5 hpb (by simp[ids]) (hpr 1 u1 hu1 0 _ rfl))<|Qv Cv<|QW.re 29 (.int .i64 (u1.toNat:Nat)) rfl (by congr 1;exact IntWalk.i64_in _ (by have:=u1.toNat_lt;omega))<|Qv Mv<|Qv (Val.indexAddrN (i:=2) rfl rfl Tryz.underlying54 Tryz.sizeOf5 om_)<|Qv (Val.loadO rfl Tryz.isAgg5 hpb (by simp[ids]) (hpr 2 u2 hu2 0 _ rfl))<|Qv Cv<|QW.re 33 (.int .i64 (u2.toNat:Nat)) rfl (by congr 1;exact IntWalk.i64_in _ (by have:=u2.toNat_lt;omega))<|pA_ 6 ?_
     refine Rt3 ?_
     have e8:headF l=some (u1.toNat,u2.toNat):=by
      unfold headF
      rw[hu1,hu2,hu0,if_pos ⟨by omega,by rw[show u0=1 from UInt8.toNat_inj.1 (show u0.toNat=1 by omega)],by simp only[Option.getD_some];omega,by simp only[Option.getD_some];omega⟩];rfl
     intro w' hw;exact⟨by rw[e8];rfl,hw.below⟩
end
section
attribute [local irreducible] V.CW V.LW V.QW V.RW V.PQ V.Val V.Eff V.Qcall
open V (str byC ownV ownG ownS ownOk)
instance:Cal Tryz.prog 73:=⟨Tryz.call73⟩
instance:Cal Tryz.prog 74:=⟨Tryz.call74⟩
instance:Cal Tryz.prog 136:=⟨Tryz.call136⟩
instance:Cal Tryz.prog 137:=⟨Tryz.call137⟩
theorem mayF_iff {x:Blk}:mayF x=true↔(0≤x.cls∧x.cls≤3)∧((x.kind=0∧x.id=0∧x.ver=0∧x.ep=0∧x.key.length=0∧x.val.length=0)∨(x.kind≠0∧(1≤x.id∧x.id≤2305843009213693952)∧(1≤x.ver∧x.ver≤2305843009213693952)∧(1≤x.ep∧x.ep≤2305843009213693952)∧x.key.length≤16∧x.val.length≤400∧((x.kind=1∧1≤x.key.length∧needF ((x.key.length:Int)+x.val.length)=x.cls)∨(x.kind=2∧x.key.length=0∧needF ((x.key.length:Int)+x.val.length)=x.cls)∨(x.kind=3∧x.key.length=0∧x.val.length=0∧x.cls=0)))):=by
 have hs:=spanF_cases x.cls
 unfold mayF
 by_cases h0:spanF x.cls=0
 ·rw[if_pos h0];simp only[Bool.false_eq_true,false_iff];omega
 rw[if_neg h0]
 have hc:0≤x.cls∧x.cls≤3:=by omega
 by_cases k0:x.kind=0
 ·rw[if_pos k0,decide_eq_true_eq,← List.length_eq_zero_iff,← List.length_eq_zero_iff];omega
 rw[if_neg k0]
 simp only[Bool.and_eq_true,numF,decide_eq_true_eq]
 by_cases k1:x.kind=1
 ·rw[if_pos k1,decide_eq_true_eq];omega
 rw[if_neg k1]
 by_cases k2:x.kind=2
 ·rw[if_pos k2,decide_eq_true_eq,← List.length_eq_zero_iff]
  by_cases kl:x.key.length=0
  ·have e0:((x.key.length:Nat):Int)+x.val.length=x.val.length:=by omega
   rw[e0];omega
  ·omega
 rw[if_neg k2]
 by_cases k3:x.kind=3
 ·rw[if_pos k3,decide_eq_true_eq,← List.length_eq_zero_iff,← List.length_eq_zero_iff];omega
 ·rw[if_neg k3];simp only[Bool.false_eq_true,false_and,false_iff];omega
theorem may_num {x:Blk}(h:mayF x=true):numOk x:=by
 have h2:=mayF_iff.1 h
 exact⟨⟨by omega,by omega⟩,⟨by omega,by omega⟩,⟨by omega,by omega⟩,by omega⟩
theorem rmay_c (x:Blk)(hl:x.key.length≤100000∧x.val.length≤100000):Rz Tryz.prog 73 [.agg (blC x).toArray] (.bool (mayF x)):=by
 intro w
 refine Cb_ Tryz.func73 rfl Tryz.ntmps73<|Sq<|Rg<|Le XA fun b1 _=>pA_ 7 ?_
 refine Lv Ld<|Lv Cm<|Lv Mv ?_
 refine LW.split (d:=7) rfl (fun h7=>?_) (fun h7=>?_)
 ·replace h7:=bT h7
  refine pA_ 15 ?_
  intro w' hw;exact⟨by congr 2;rw[Bool.eq_iff_iff,mayF_iff];(try simp only[decide_eq_true_eq,Bool.false_eq_true,false_iff,true_iff,beq_iff_eq]);omega,hw.below⟩
 ·replace h7:=bF h7
  refine Lv (Fa 0 3)<|Lv Ld<|pA_ 4 ?_
  refine Cd_ rfl (fun h11=>?_) fun h11=>?_
  ·refine pA_ 8 ?_
   intro w' hw;exact⟨by congr 2;rw[Bool.eq_iff_iff,mayF_iff];(try simp only[decide_eq_true_eq,Bool.false_eq_true,false_iff,true_iff,beq_iff_eq]);omega,hw.below⟩
  ·refine pA_ 6 ?_
   refine Lv Ld<|pA_ 3 ?_
   refine Cd_ rfl (fun h14=>?_) fun h14=>?_
   ·refine pA_ 3 ?_
    refine Lv Ld<|Lv Cm<|Lv Mv ?_
    refine LW.split (d:=18) rfl (fun h18=>?_) (fun h18=>?_)
    ·replace h18:=bT h18
     refine Lv (Fa 3 22)<|Lv Ld<|pA_ 3 ?_
     refine LW.split (d:=23) rfl (fun h23=>?_) (fun h23=>?_)
     ·replace h23:=bT h23
      refine Lv (Fa 4 22)<|Lv Ld<|pA_ 3 ?_
      refine LW.split (d:=28) rfl (fun h28=>?_) (fun h28=>?_)
      ·replace h28:=bT h28
       refine Lv (Fa 5 9)<|Lv Ld<|Lv ES<|LW.re 31 (.bool (decide (x.key.length=0))) rfl (by congr 1;rw[decide_eq_decide];exact List.length_eq_zero_iff.symm)<|Lv Pt<|Lv Mv ?_
       refine LW.split (d:=33) rfl (fun h33=>?_) (fun h33=>?_)
       ·replace h33:=bT h33
        refine Lv (Fa 6 9)<|Lv Ld<|Lv ES<|LW.re 36 (.bool (decide (x.val.length=0))) rfl (by congr 1;rw[decide_eq_decide];exact List.length_eq_zero_iff.symm)<|pA_ 7 ?_
        intro w' hw;exact⟨by congr 2;rw[Bool.eq_iff_iff,mayF_iff];(try simp only[decide_eq_true_eq,Bool.false_eq_true,false_iff,true_iff,beq_iff_eq]);omega,hw.below⟩
       ·replace h33:=bF h33
        refine pA_ 10 ?_
        intro w' hw;exact⟨by congr 2;rw[Bool.eq_iff_iff,mayF_iff];(try simp only[decide_eq_true_eq,Bool.false_eq_true,false_iff,true_iff,beq_iff_eq]);omega,hw.below⟩
      ·replace h28:=bF h28
       refine pA_ 15 ?_
       intro w' hw;exact⟨by congr 2;rw[Bool.eq_iff_iff,mayF_iff];(try simp only[decide_eq_true_eq,Bool.false_eq_true,false_iff,true_iff,beq_iff_eq]);omega,hw.below⟩
     ·replace h23:=bF h23
      refine pA_ 20 ?_
      intro w' hw;exact⟨by congr 2;rw[Bool.eq_iff_iff,mayF_iff];(try simp only[decide_eq_true_eq,Bool.false_eq_true,false_iff,true_iff,beq_iff_eq]);omega,hw.below⟩
    ·replace h18:=bF h18
     refine pA_ 25 ?_
     intro w' hw;exact⟨by congr 2;rw[Bool.eq_iff_iff,mayF_iff];(try simp only[decide_eq_true_eq,Bool.false_eq_true,false_iff,true_iff,beq_iff_eq]);omega,hw.below⟩
   ·refine pA_ 6 ?_
    refine Lv Ld<|Le (Cz_ (rnumber_c _)) fun _ _=>Lv Nt<|Lv Mv ?_
    refine LW.split (d:=42) rfl (fun h42=>?_) (fun h42=>?_)
    ·replace h42:=bT h42
     have h42:¬(1≤x.id∧x.id≤2305843009213693952):=by simpa[numF] using h42
     refine pA_ 22 ?_
     intro w' hw;exact⟨by congr 2;rw[Bool.eq_iff_iff,mayF_iff];(try simp only[decide_eq_true_eq,Bool.false_eq_true,false_iff,true_iff,beq_iff_eq]);omega,hw.below⟩
    ·replace h42:=bF h42
     have h42:(1≤x.id∧x.id≤2305843009213693952):=by simpa[numF] using h42
     refine Lv (Fa 3 22)<|Lv Ld<|Le (Cz_ (rnumber_c _)) fun _ _=>pA_ 3 ?_
     refine LW.split (d:=48) rfl (fun h48=>?_) (fun h48=>?_)
     ·replace h48:=bT h48
      have h48:¬(1≤x.ver∧x.ver≤2305843009213693952):=by simpa[numF] using h48
      refine pA_ 16 ?_
      intro w' hw;exact⟨by congr 2;rw[Bool.eq_iff_iff,mayF_iff];(try simp only[decide_eq_true_eq,Bool.false_eq_true,false_iff,true_iff,beq_iff_eq]);omega,hw.below⟩
     ·replace h48:=bF h48
      have h48:(1≤x.ver∧x.ver≤2305843009213693952):=by simpa[numF] using h48
      refine Lv (Fa 4 22)<|Lv Ld<|Le (Cz_ (rnumber_c _)) fun _ _=>pA_ 4 ?_
      refine Cd_ rfl (fun h53=>?_) fun h53=>?_
      ·have h53:¬(1≤x.ep∧x.ep≤2305843009213693952):=by simpa[numF] using h53
       refine pA_ 8 ?_
       intro w' hw;exact⟨by congr 2;rw[Bool.eq_iff_iff,mayF_iff];(try simp only[decide_eq_true_eq,Bool.false_eq_true,false_iff,true_iff,beq_iff_eq]);omega,hw.below⟩
      ·have h53:(1≤x.ep∧x.ep≤2305843009213693952):=by simpa[numF] using h53
       refine pA_ 6 ?_
       refine Lv Ld<|pA_ 3 ?_
       refine LW.split (d:=58) rfl (fun h58=>?_) (fun h58=>?_)
       ·replace h58:=bT h58
        refine pA_ 16 ?_
        intro w' hw;exact⟨by congr 2;rw[Bool.eq_iff_iff,mayF_iff];(try simp only[decide_eq_true_eq,Bool.false_eq_true,false_iff,true_iff,beq_iff_eq]);omega,hw.below⟩
       ·replace h58:=bF h58
        refine Lv (Fa 6 9)<|Lv Ld<|pA_ 5 ?_
        refine Cd_ rfl (fun h63=>?_) fun h63=>?_
        ·refine pA_ 8 ?_
         intro w' hw;exact⟨by congr 2;rw[Bool.eq_iff_iff,mayF_iff];(try simp only[decide_eq_true_eq,Bool.false_eq_true,false_iff,true_iff,beq_iff_eq]);omega,hw.below⟩
        ·refine pA_ 5 ?_
         refine Lv Ld<|Lv LnS<|Lv (Fa 6 9)<|Lv Ld<|Lv LnS<|Lv Ar<|Le (Cz_ (rneed_c _)) fun _ _=>pA_ 7 ?_
         refine Lv Ld<|pA_ 9 ?_
         refine Cd_ rfl (fun h74=>?_) fun h74=>?_
         ·refine pA_ 3 ?_
          refine Lv Ld<|Lv NS<|LW.re 78 (.bool (decide (1≤x.key.length))) rfl (by congr 1;rw[← decide_not,decide_eq_decide,← List.length_eq_zero_iff];omega)<|Lv Mv ?_
          refine LW.split (d:=79) rfl (fun h79=>?_) (fun h79=>?_)
          ·replace h79:=bT h79
           refine Lv (Fa 0 3)<|Lv Ld<|pA_ 10 ?_
           intro w' hw;exact⟨by congr 2;rw[Bool.eq_iff_iff,mayF_iff];(try simp only[decide_eq_true_eq,Bool.false_eq_true,false_iff,true_iff,beq_iff_eq]);omega,hw.below⟩
          ·replace h79:=bF h79
           refine pA_ 12 ?_
           intro w' hw;exact⟨by congr 2;rw[Bool.eq_iff_iff,mayF_iff];(try simp only[decide_eq_true_eq,Bool.false_eq_true,false_iff,true_iff,beq_iff_eq]);omega,hw.below⟩
         ·refine pA_ 6 ?_
          refine Cd_ rfl (fun h85=>?_) fun h85=>?_
          ·refine pA_ 3 ?_
           refine Lv Ld<|Lv ES<|LW.re 89 (.bool (decide (x.key.length=0))) rfl (by congr 1;rw[decide_eq_decide];exact List.length_eq_zero_iff.symm)<|Lv Mv ?_
           refine LW.split (d:=90) rfl (fun h90=>?_) (fun h90=>?_)
           ·replace h90:=bT h90
            refine Lv (Fa 0 3)<|Lv Ld<|pA_ 10 ?_
            intro w' hw;exact⟨by congr 2;rw[Bool.eq_iff_iff,mayF_iff];(try simp only[decide_eq_true_eq,Bool.false_eq_true,false_iff,true_iff,beq_iff_eq]);omega,hw.below⟩
           ·replace h90:=bF h90
            refine pA_ 12 ?_
            intro w' hw;exact⟨by congr 2;rw[Bool.eq_iff_iff,mayF_iff];(try simp only[decide_eq_true_eq,Bool.false_eq_true,false_iff,true_iff,beq_iff_eq]);omega,hw.below⟩
          ·refine pA_ 6 ?_
           refine Cd_ rfl (fun h96=>?_) fun h96=>?_
           ·refine pA_ 3 ?_
            refine Lv Ld<|Lv ES<|LW.re 100 (.bool (decide (x.key.length=0))) rfl (by congr 1;rw[decide_eq_decide];exact List.length_eq_zero_iff.symm)<|Lv Mv ?_
            refine LW.split (d:=101) rfl (fun h101=>?_) (fun h101=>?_)
            ·replace h101:=bT h101
             refine Lv (Fa 6 9)<|Lv Ld<|Lv ES<|LW.re 104 (.bool (decide (x.val.length=0))) rfl (by congr 1;rw[decide_eq_decide];exact List.length_eq_zero_iff.symm)<|Lv Pt<|Lv Mv ?_
             refine LW.split (d:=106) rfl (fun h106=>?_) (fun h106=>?_)
             ·replace h106:=bT h106
              refine Lv (Fa 0 3)<|Lv Ld<|pA_ 9 ?_
              intro w' hw;exact⟨by congr 2;rw[Bool.eq_iff_iff,mayF_iff];(try simp only[decide_eq_true_eq,Bool.false_eq_true,false_iff,true_iff,beq_iff_eq]);omega,hw.below⟩
             ·replace h106:=bF h106
              refine pA_ 11 ?_
              intro w' hw;exact⟨by congr 2;rw[Bool.eq_iff_iff,mayF_iff];(try simp only[decide_eq_true_eq,Bool.false_eq_true,false_iff,true_iff,beq_iff_eq]);omega,hw.below⟩
            ·replace h101:=bF h101
             refine pA_ 16 ?_
             intro w' hw;exact⟨by congr 2;rw[Bool.eq_iff_iff,mayF_iff];(try simp only[decide_eq_true_eq,Bool.false_eq_true,false_iff,true_iff,beq_iff_eq]);omega,hw.below⟩
           ·refine pA_ 10 ?_
            intro w' hw;exact⟨by congr 2;rw[Bool.eq_iff_iff,mayF_iff];(try simp only[decide_eq_true_eq,Bool.false_eq_true,false_iff,true_iff,beq_iff_eq]);omega,hw.below⟩
def lnBase (x:Blk):List UInt8:=hd32 x++layF 4 (sumF (hd32 x++dataB x))
def rOutF (x:Blk)(k:Nat):List UInt8:=if k=0 then lnBase x else lnBase x++(dataB x).take 28++tailL (dataB x) (k-1)
def rAtF (k:Nat):Nat:=if k=0 then 0 else 28+63*(k-1)
def rOutN (k:Nat):Nat:=if k=0 then 36 else 64*k
def rInN (k:Nat):Nat:=if k=0 then 36 else 64*k+1
def rNeedB (k:Nat):Nat:=if k=0 then 28 else 63
def rInB (x:Blk)(k:Nat):List UInt8:=if k=0 then rOutF x k else rOutF x k++[2]
theorem in_end (x:Blk)(k:Nat):rInB x k++((dataB x).drop (rAtF k)).take (rNeedB k)=rOutF x (k+1):=by
 unfold rInB rOutF rAtF rNeedB
 cases k with
 |zero=>simp[tailL]
 |succ m=>
  rw[if_neg om_,if_neg om_,if_neg om_,if_neg om_,if_neg om_,show m+1+1-1=m+1 by omega,show m+1-1=m by omega,tailL_succ]
  simp
theorem at_need (k:Nat):rAtF k+rNeedB k=rAtF (k+1):=by unfold rAtF rNeedB;split<;>(rw[if_neg om_];omega)
theorem in_need (k:Nat):rInN k+rNeedB k=rOutN (k+1):=by unfold rInN rNeedB rOutN;split<;>(rw[if_neg om_];omega)
theorem at_lt {k i s:Nat}(hk:k<s)(hi:i<rNeedB k):rAtF k+i<28+63*(s-1):=by unfold rAtF rNeedB at*;split at hi<;>simp_all<;>omega
theorem in_lt {k i:Nat}:rInN k+i<64*(k+1)↔i<rNeedB k:=by unfold rInN rNeedB;split<;>omega
theorem out_enc {x:Blk}(h:numOk x)(hs:spanF x.cls≠0):rOutF x (spanF x.cls)=encL x:=by
 rw[encL_eq h];unfold rOutF lnBase;rw[if_neg hs]
theorem outN_of {k:Nat}(h:k≠0):rOutN k=64*k:=by unfold rOutN;rw[if_neg h]
theorem rlines_c (x:Blk)(hx:numOk x)(hsp:spanF x.cls≠0)(hfit:x.key.length+x.val.length≤capN x.cls):Mz Tryz.prog 74 [.agg (blC x).toArray] (fun o:V.OwnO=>ownOk 1 (64*spanF x.cls) (byC (encL x)) o) (fun o=>ownV (64*spanF x.cls) o) (fun o=>[ownG 5 (byC (encL x)) (o)]):=by
 intro w
 have hcs:=capN_span hsp
 have hce:=capN_eq x.cls
 obtain⟨hx1,hx2,hx3,hx4⟩:=id hx
 have hdl:(dataB x).length=capN x.cls:=by unfold dataB;simp only[List.length_append,List.length_replicate];omega
 have hsr:=sumF_rng (hd32 x++dataB x)
 refine Cb_ Tryz.func74 rfl Tryz.ntmps74<|Sq<|Rg<|Le XA fun b1 _=>pA_ 6 ?_
 refine Lv Ld<|Lv Cv<|LW.re 12 (.int .u8 ((byteF x.cls).toNat:Nat)) rfl (byteF_eq _)<|Lv (Fa 1 3)<|Lv Ld<|Lv Cv<|LW.re 15 (.int .u8 ((byteF x.kind).toNat:Nat)) rfl (byteF_eq _)<|Lv (Fa 5 9)<|Lv Ld<|Lv LnS<|Lv Cv<|LW.re 19 (.int .u8 ((byteF x.key.length).toNat:Nat)) rfl (byteF_eq _)<|Le (Eff.buildSlice (rfl) [_,_,_,_] Tryz.underlying54 Tryz.sizeOf5 (by exact Tryz.zeroValue5) rfl rfl rfl rfl (by rfl)) fun b20 _=>pA_ 7 ?_
 refine Lv Ld<|Lv LnS<|Lv Cv<|LW.re 25 (.int .u64 ((x.val.length:Nat):Int)) rfl (by rw[IntWalk.u64_in _ om_])<|Le (Cn_ (rlay_c 2 ((x.val.length:Nat)) om_ om_)) fun o26 ho26=>Le (Eff.appendOwn (sz:=1) (bytes:=1) (z:= .int .u8 0) (xs:=byC ([1,byteF x.cls,byteF x.kind,byteF x.key.length])) (ys:=byC (layF 2 (x.val.length:Nat))) (m0:=4) (m:=2) (o:=some (b20,[],4)) (oy:=o26) (pk:=[[(b20,.cells (byC ([1,byteF x.cls,byteF x.kind,byteF x.key.length])).toArray 5 (0,0))]]) (pk2:=[ownG 5 (byC (layF 2 (x.val.length:Nat))) (o26)]) rfl rfl Tryz.underlying54 kr_ rfl om_ pk_ (by first|rfl|simp[V.ownG_some]) ⟨rfl,rfl⟩ pk_ (by simp) ho26 (V.byC_one _) om_ om_) fun o27 ho27=>?_
 rw[← V.byC_append] at ho27⊢
 refine pA_ 6 ?_
 refine Le (Eff.buildSlice (rfl) [_,_] Tryz.underlying54 Tryz.sizeOf5 (by exact Tryz.zeroValue5) rfl rfl rfl rfl (by rfl)) fun b29 _=>Le (Eff.appendOwn (sz:=1) (bytes:=1) (z:= .int .u8 0) (xs:=byC ([1,byteF x.cls,byteF x.kind,byteF x.key.length]++layF 2 (x.val.length:Nat))) (ys:=byC ([0,0])) (m0:=6) (m:=2) (o:=o27) (oy:=some (b29,[],2)) (pk:=[ownG 5 (byC ([1,byteF x.cls,byteF x.kind,byteF x.key.length]++layF 2 (x.val.length:Nat))) (o27)]) (pk2:=[ownG 5 (byC ([0,0])) (some (b29,[],2))]) rfl rfl Tryz.underlying54 kr_ rfl om_ pk_ (by first|rfl|simp[V.ownG_some]) ho27 pk_ (by simp) ⟨rfl,rfl⟩ (V.byC_one _) om_ om_) fun o30 ho30=>?_
 rw[← V.byC_append] at ho30⊢
 refine pA_ 7 ?_
 refine Lv Ld<|Le (Cn_ (rlay_c 8 (x.id) om_ hx1)) fun o34 ho34=>Le (Eff.appendOwn (sz:=1) (bytes:=1) (z:= .int .u8 0) (xs:=byC ([1,byteF x.cls,byteF x.kind,byteF x.key.length]++layF 2 (x.val.length:Nat)++[0,0])) (ys:=byC (layF 8 x.id)) (m0:=8) (m:=8) (o:=o30) (oy:=o34) (pk:=[ownG 5 (byC ([1,byteF x.cls,byteF x.kind,byteF x.key.length]++layF 2 (x.val.length:Nat)++[0,0])) (o30)]) (pk2:=[ownG 5 (byC (layF 8 x.id)) (o34)]) rfl rfl Tryz.underlying54 kr_ rfl om_ pk_ (by first|rfl|simp[V.ownG_some]) ho30 pk_ (by simp) ho34 (V.byC_one _) om_ om_) fun o35 ho35=>?_
 rw[← V.byC_append] at ho35⊢
 refine pA_ 7 ?_
 refine Lv Ld<|Le (Cn_ (rlay_c 8 (x.ver) om_ hx2)) fun o39 ho39=>Le (Eff.appendOwn (sz:=1) (bytes:=1) (z:= .int .u8 0) (xs:=byC ([1,byteF x.cls,byteF x.kind,byteF x.key.length]++layF 2 (x.val.length:Nat)++[0,0]++layF 8 x.id)) (ys:=byC (layF 8 x.ver)) (m0:=16) (m:=8) (o:=o35) (oy:=o39) (pk:=[ownG 5 (byC ([1,byteF x.cls,byteF x.kind,byteF x.key.length]++layF 2 (x.val.length:Nat)++[0,0]++layF 8 x.id)) (o35)]) (pk2:=[ownG 5 (byC (layF 8 x.ver)) (o39)]) rfl rfl Tryz.underlying54 kr_ rfl om_ pk_ (by first|rfl|simp[V.ownG_some]) ho35 pk_ (by simp) ho39 (V.byC_one _) om_ om_) fun o40 ho40=>?_
 rw[← V.byC_append] at ho40⊢
 refine pA_ 7 ?_
 refine Lv Ld<|Le (Cn_ (rlay_c 8 (x.ep) om_ hx3)) fun o44 ho44=>Le (Eff.appendOwn (sz:=1) (bytes:=1) (z:= .int .u8 0) (xs:=byC ([1,byteF x.cls,byteF x.kind,byteF x.key.length]++layF 2 (x.val.length:Nat)++[0,0]++layF 8 x.id++layF 8 x.ver)) (ys:=byC (layF 8 x.ep)) (m0:=24) (m:=8) (o:=o40) (oy:=o44) (pk:=[ownG 5 (byC ([1,byteF x.cls,byteF x.kind,byteF x.key.length]++layF 2 (x.val.length:Nat)++[0,0]++layF 8 x.id++layF 8 x.ver)) (o40)]) (pk2:=[ownG 5 (byC (layF 8 x.ep)) (o44)]) rfl rfl Tryz.underlying54 kr_ rfl om_ pk_ (by first|rfl|simp[V.ownG_some]) ho40 pk_ (by simp) ho44 (V.byC_one _) om_ om_) fun o45 ho45=>?_
 rw[← V.byC_append] at ho45⊢
 rw[show[1,byteF x.cls,byteF x.kind,byteF x.key.length]++layF 2 (x.val.length:Nat)++[0,0]++layF 8 x.id++layF 8 x.ver++layF 8 x.ep=hd32 x from rfl] at ho45⊢
 refine pA_ 6 ?_
 refine Lv Ld<|Lv (Fa 6 9)<|Lv Ld<|Lv (Val.catStr rfl rfl (by first|omega|(simp only[List.length_append,List.length_cons,List.length_nil];omega)))<|pA_ 11 ?_
 refine CW.loop (γ:=Nat) (fun k=>[(1,.pointer (some ⟨b1,0,none⟩)),(3,ownV 32 o45),(4,str (x.key++x.val)),(5,str (x.key++x.val++List.replicate k 0))]) (fun k=>[[(b1,.cells (blC x).toArray 53 (0,0))],ownG 5 (byC (hd32 x)) (o45)]) (fun k=>k≤capN x.cls-(x.key.length+x.val.length)) (fun k=>capN x.cls-(x.key.length+x.val.length)-k) (0) (Nat.zero_le _) (by refine⟨rfl,rfl,rfl,?_,trivial⟩;rw[List.replicate_zero,List.append_nil];rfl) pk_ ?_
 intro k
 intro hk1
 refine pA_ 6 ?_
 refine Lv Ld<|Le (Cz_ (rcap_c x.cls)) fun _ _=>pA_ 3 ?_
 refine Cd_ rfl (fun h57=>?_) fun h57=>?_
 ·have hk9:k<capN x.cls-(x.key.length+x.val.length):=by simp only[List.length_append,List.length_replicate] at h57;omega
  refine pA_ 5 ?_
  refine Lv (Val.catStr rfl rfl (by simp only[List.length_append,List.length_replicate,List.length_cons,List.length_nil];omega))<|pA_ 3 ?_
  refine PQ.round (k+1) om_ om_ (by refine⟨rfl,rfl,rfl,?_,trivial⟩;rw[List.replicate_succ',← List.append_assoc];rfl) pk_
 ·have hk9:k=capN x.cls-(x.key.length+x.val.length):=by simp only[List.length_append,List.length_replicate] at h57;omega
  have hroom:x.key++x.val++List.replicate k 0=dataB x:=by rw[hk9];rfl
  refine pA_ 8 ?_
  refine LW.re 60 (ownV (hd32 x).length o45) rfl (by rw[hd32_len])<|Lv (Val.convBytes (l:=hd32 x) (o:=o45) (pk:=[ownG 5 (byC (hd32 x)) (o45)]) rfl Tryz.underlying54 Tryz.underlying5 Tryz.underlying9 (by rw[hd32_len];exact ho45) pk_ (by simp))<|Lv Mv<|LW.re 62 (str (dataB x)) rfl (by rw[hroom])<|Lv (Val.catStr rfl rfl (by rw[hd32_len,hdl];omega))<|Le (Cz_ (rtext_c (hd32 x++dataB x) (by simp only[List.length_append,hd32_len,hdl];omega))) fun _ _=>pA_ 8 ?_
  refine LW.re 67 (.int .u64 (sumF (hd32 x++dataB x))) rfl (by rw[IntWalk.u64_in _ om_])<|Le (Cn_ (rlay_c 4 (sumF (hd32 x++dataB x)) om_ om_)) fun o68 ho68=>Le (Eff.appendOwn (sz:=1) (bytes:=1) (z:= .int .u8 0) (xs:=byC (hd32 x)) (ys:=byC (layF 4 (sumF (hd32 x++dataB x)))) (m0:=32) (m:=4) (o:=o45) (oy:=o68) (pk:=[ownG 5 (byC (hd32 x)) (o45)]) (pk2:=[ownG 5 (byC (layF 4 (sumF (hd32 x++dataB x)))) (o68)]) rfl rfl Tryz.underlying54 kr_ rfl om_ pk_ (by first|rfl|simp[V.ownG_some]) ho45 pk_ (by simp) ho68 (V.byC_one _) om_ om_) fun o69 ho69=>?_
  rw[← V.byC_append] at ho69⊢
  rw[show hd32 x++layF 4 (sumF (hd32 x++dataB x))=rOutF x 0 from rfl] at ho69⊢
  refine pA_ 15 ?_
  refine loopA (γ:=Nat×V.OwnO) (fun k=>[(1,.pointer (some ⟨b1,0,none⟩)),(4,str (x.key++x.val)),(7,ownV (rOutN k.1) k.2),(8,.int .i64 ((rAtF k.1:Nat):Int)),(9,.int .i64 ((k.1:Nat):Int))]) (fun k=>[[(b1,.cells (blC x).toArray 53 (0,0))],ownG 5 (byC (rOutF x k.1)) (k.2)]) (fun k=>k.1≤spanF x.cls∧ownOk 1 (rOutN k.1) (byC (rOutF x k.1)) k.2) (fun k=>spanF x.cls-k.1) ((0,o69)) ⟨Nat.zero_le _,ho69⟩ fun k=>?_
  rintro⟨hk1,hk2⟩
  refine pA_ 5 ?_
  refine Lv Ld<|Le (Cz_ (rspan_c x.cls)) fun _ _=>pA_ 3 ?_
  refine Cd_ rfl (fun h74=>?_) fun h74=>?_
  ·have hk9:k.1<spanF x.cls:=by omega
   have hon:rOutN k.1≤600:=by unfold rOutN;split<;>omega
   have hin:rInN k.1≤600:=by unfold rInN;split<;>omega
   have hat:rAtF k.1≤600:=by unfold rAtF;split<;>omega
   have hnb:rNeedB k.1≤63:=by unfold rNeedB;split<;>omega
   refine pA_ 11 ?_
   refine Cd_ rfl (fun h78=>?_) fun h78=>?_
   ·refine Rg<|Lv Mv<|Le (Eff.buildSlice (rfl) [_] Tryz.underlying54 Tryz.sizeOf5 (by exact Tryz.zeroValue5) rfl rfl rfl rfl (by rfl)) fun b80 _=>Le (Eff.appendAny (byC ([2])) (sz:=1) (bytes:=1) (z:= .int .u8 0) (xs:=byC (rOutF x k.1)) (m0:=rOutN k.1) (o:=k.2) (m:=1) (pk:=[ownG 5 (byC (rOutF x k.1)) (k.2)]) rfl rfl Tryz.underlying54 kr_ rfl om_ pk_ (by simp) hk2 (by rfl) (fun hm0=>⟨b80,0,rfl,fun w hw=>V.range_of_block (o:=0) (cs:=byC [2]) (r:=[]) (hw.own _ (show InS (b80,.cells (byC [2]).toArray 5 (0,0)) _ from in_).mem) rfl⟩) (V.byC_one _) om_ om_) fun o81 ho81=>?_
    rw[← V.byC_append] at ho81⊢
    refine pA_ 4 ?_
    have e9:rOutF x k.1++[2]=rInB x k.1++((dataB x).drop (rAtF k.1)).take 0:=by rw[List.take_zero,List.append_nil];unfold rInB;rw[if_neg om_]
    have n9:rOutN k.1+1=rInN k.1+0:=by unfold rOutN rInN;rw[if_neg om_,if_neg om_]
    rw[e9,n9] at ho81⊢
    refine loopA (γ:=Nat×V.OwnO) (fun i=>[(1,.pointer (some ⟨b1,0,none⟩)),(4,str (x.key++x.val)),(7,ownV (rInN k.1+i.1) i.2),(8,.int .i64 ((rAtF k.1+i.1:Nat):Int)),(9,.int .i64 ((k.1:Nat):Int))]) (fun i=>[[(b1,.cells (blC x).toArray 53 (0,0))],ownG 5 (byC (rInB x k.1++((dataB x).drop (rAtF k.1)).take i.1)) (i.2)]) (fun i=>i.1≤rNeedB k.1∧ownOk 1 (rInN k.1+i.1) (byC (rInB x k.1++((dataB x).drop (rAtF k.1)).take i.1)) i.2) (fun i=>rNeedB k.1-i.1) ((0,o81)) ⟨Nat.zero_le _,ho81⟩ fun i=>?_
    rintro⟨hi1,hi2⟩
    refine pA_ 4 ?_
    refine Lv (Val.lenOwn rfl Tryz.underlying54 hi2)<|pA_ 6 ?_
    refine Cd_ rfl (fun h87=>?_) fun h87=>?_
    ·have hi9:i.1<rNeedB k.1:=in_lt.1 om_
     have hlt9:=at_lt hk9 hi9
     obtain⟨u,hu⟩:∃u,(dataB x)[rAtF k.1+i.1]? =some u:=⟨(dataB x)[rAtF k.1+i.1]'(by rw[hdl];omega),by simp⟩
     have est:((dataB x).drop (rAtF k.1)).take (i.1+1)=((dataB x).drop (rAtF k.1)).take i.1++[u]:=by rw[List.take_add_one,List.getElem?_drop,hu];rfl
     refine pA_ 12 ?_
     refine Cd_ rfl (fun h91=>?_) fun h91=>?_
     ·simp only[List.length_append] at h91
      have hlt:(x.key++x.val)[rAtF k.1+i.1]? =some u:=by
       rw[← hu];unfold dataB;exact(List.getElem?_append_left (by rw[List.length_append];omega)).symm
      refine Rg<|Lv Mv<|Lv Mv<|Lv Mv<|Lv (Val.indexStr (u:=u) rfl rfl Tryz.underlying9 hlt)<|Le (Eff.buildSlice (rfl) [_] Tryz.underlying54 Tryz.sizeOf5 (by exact Tryz.zeroValue5) rfl rfl rfl rfl (by rfl)) fun b96 _=>Le (Eff.appendAny (byC ([u])) (sz:=1) (bytes:=1) (z:= .int .u8 0) (xs:=byC (rInB x k.1++((dataB x).drop (rAtF k.1)).take i.1)) (m0:=rInN k.1+i.1) (o:=i.2) (m:=1) (pk:=[ownG 5 (byC (rInB x k.1++((dataB x).drop (rAtF k.1)).take i.1)) (i.2)]) rfl rfl Tryz.underlying54 kr_ rfl om_ pk_ (by simp) hi2 (by rfl) (fun hm0=>⟨b96,0,rfl,fun w hw=>V.range_of_block (o:=0) (cs:=byC [u]) (r:=[]) (hw.own _ (show InS (b96,.cells (byC [u]).toArray 5 (0,0)) _ from in_).mem) rfl⟩) (V.byC_one _) om_ om_) fun o97 ho97=>?_
      rw[← V.byC_append,List.append_assoc,← est] at ho97⊢
      refine pA_ 9 ?_
      exact roundA ((i.1+1,o97)) ⟨by simp only;omega,ho97⟩ (by simp only;omega)
     ·simp only[List.length_append] at h91
      have hu0:u=0:=by
       have h8:=hu
       unfold dataB at h8
       rw[List.getElem?_append_right (by rw[List.length_append];omega),List.getElem?_replicate] at h8
       split at h8
       ·exact(Option.some.inj h8).symm
       ·cases h8
      subst hu0
      refine Rg<|Lv Mv<|Le (Eff.buildSlice (rfl) [_] Tryz.underlying54 Tryz.sizeOf5 (by exact Tryz.zeroValue5) rfl rfl rfl rfl (by rfl)) fun b99 _=>Le (Eff.appendAny (byC ([0])) (sz:=1) (bytes:=1) (z:= .int .u8 0) (xs:=byC (rInB x k.1++((dataB x).drop (rAtF k.1)).take i.1)) (m0:=rInN k.1+i.1) (o:=i.2) (m:=1) (pk:=[ownG 5 (byC (rInB x k.1++((dataB x).drop (rAtF k.1)).take i.1)) (i.2)]) rfl rfl Tryz.underlying54 kr_ rfl om_ pk_ (by simp) hi2 (by rfl) (fun hm0=>⟨b99,0,rfl,fun w hw=>V.range_of_block (o:=0) (cs:=byC [0]) (r:=[]) (hw.own _ (show InS (b99,.cells (byC [0]).toArray 5 (0,0)) _ from in_).mem) rfl⟩) (V.byC_one _) om_ om_) fun o97 ho97=>?_
      rw[← V.byC_append,List.append_assoc,← est] at ho97⊢
      refine pA_ 9 ?_
      exact roundA ((i.1+1,o97)) ⟨by simp only;omega,ho97⟩ (by simp only;omega)
    ·have hi9:i.1=rNeedB k.1:=by have h8:=mt in_lt.2 (show ¬rInN k.1+i.1<64*(k.1+1) by omega);omega
     refine pA_ 11 ?_
     rw[hi9,in_end,in_need] at hi2
     rw[hi9,in_end,in_need,at_need]
     exact roundA ((k.1+1,i.2)) ⟨by simp only;omega,hi2⟩ (by simp only;omega)
   ·refine pA_ 3 ?_
    have e9:rOutF x k.1=rInB x k.1++((dataB x).drop (rAtF k.1)).take 0:=by rw[List.take_zero,List.append_nil];unfold rInB;rw[if_pos om_]
    have n9:rOutN k.1=rInN k.1+0:=by unfold rOutN rInN;rw[if_pos om_,if_pos om_]
    have hk4:=hk2
    rw[e9,n9] at hk4⊢
    refine loopA (γ:=Nat×V.OwnO) (fun i=>[(1,.pointer (some ⟨b1,0,none⟩)),(4,str (x.key++x.val)),(7,ownV (rInN k.1+i.1) i.2),(8,.int .i64 ((rAtF k.1+i.1:Nat):Int)),(9,.int .i64 ((k.1:Nat):Int))]) (fun i=>[[(b1,.cells (blC x).toArray 53 (0,0))],ownG 5 (byC (rInB x k.1++((dataB x).drop (rAtF k.1)).take i.1)) (i.2)]) (fun i=>i.1≤rNeedB k.1∧ownOk 1 (rInN k.1+i.1) (byC (rInB x k.1++((dataB x).drop (rAtF k.1)).take i.1)) i.2) (fun i=>rNeedB k.1-i.1) ((0,k.2)) ⟨Nat.zero_le _,hk4⟩ fun i=>?_
    rintro⟨hi1,hi2⟩
    refine pA_ 4 ?_
    refine Lv (Val.lenOwn rfl Tryz.underlying54 hi2)<|pA_ 6 ?_
    refine Cd_ rfl (fun h87=>?_) fun h87=>?_
    ·have hi9:i.1<rNeedB k.1:=in_lt.1 om_
     have hlt9:=at_lt hk9 hi9
     obtain⟨u,hu⟩:∃u,(dataB x)[rAtF k.1+i.1]? =some u:=⟨(dataB x)[rAtF k.1+i.1]'(by rw[hdl];omega),by simp⟩
     have est:((dataB x).drop (rAtF k.1)).take (i.1+1)=((dataB x).drop (rAtF k.1)).take i.1++[u]:=by rw[List.take_add_one,List.getElem?_drop,hu];rfl
     refine pA_ 12 ?_
     refine Cd_ rfl (fun h91=>?_) fun h91=>?_
     ·simp only[List.length_append] at h91
      have hlt:(x.key++x.val)[rAtF k.1+i.1]? =some u:=by
       rw[← hu];unfold dataB;exact(List.getElem?_append_left (by rw[List.length_append];omega)).symm
      refine Rg<|Lv Mv<|Lv Mv<|Lv Mv<|Lv (Val.indexStr (u:=u) rfl rfl Tryz.underlying9 hlt)<|Le (Eff.buildSlice (rfl) [_] Tryz.underlying54 Tryz.sizeOf5 (by exact Tryz.zeroValue5) rfl rfl rfl rfl (by rfl)) fun b96 _=>Le (Eff.appendAny (byC ([u])) (sz:=1) (bytes:=1) (z:= .int .u8 0) (xs:=byC (rInB x k.1++((dataB x).drop (rAtF k.1)).take i.1)) (m0:=rInN k.1+i.1) (o:=i.2) (m:=1) (pk:=[ownG 5 (byC (rInB x k.1++((dataB x).drop (rAtF k.1)).take i.1)) (i.2)]) rfl rfl Tryz.underlying54 kr_ rfl om_ pk_ (by simp) hi2 (by rfl) (fun hm0=>⟨b96,0,rfl,fun w hw=>V.range_of_block (o:=0) (cs:=byC [u]) (r:=[]) (hw.own _ (show InS (b96,.cells (byC [u]).toArray 5 (0,0)) _ from in_).mem) rfl⟩) (V.byC_one _) om_ om_) fun o97 ho97=>?_
      rw[← V.byC_append,List.append_assoc,← est] at ho97⊢
      refine pA_ 9 ?_
      exact roundA ((i.1+1,o97)) ⟨by simp only;omega,ho97⟩ (by simp only;omega)
     ·simp only[List.length_append] at h91
      have hu0:u=0:=by
       have h8:=hu
       unfold dataB at h8
       rw[List.getElem?_append_right (by rw[List.length_append];omega),List.getElem?_replicate] at h8
       split at h8
       ·exact(Option.some.inj h8).symm
       ·cases h8
      subst hu0
      refine Rg<|Lv Mv<|Le (Eff.buildSlice (rfl) [_] Tryz.underlying54 Tryz.sizeOf5 (by exact Tryz.zeroValue5) rfl rfl rfl rfl (by rfl)) fun b99 _=>Le (Eff.appendAny (byC ([0])) (sz:=1) (bytes:=1) (z:= .int .u8 0) (xs:=byC (rInB x k.1++((dataB x).drop (rAtF k.1)).take i.1)) (m0:=rInN k.1+i.1) (o:=i.2) (m:=1) (pk:=[ownG 5 (byC (rInB x k.1++((dataB x).drop (rAtF k.1)).take i.1)) (i.2)]) rfl rfl Tryz.underlying54 kr_ rfl om_ pk_ (by simp) hi2 (by rfl) (fun hm0=>⟨b99,0,rfl,fun w hw=>V.range_of_block (o:=0) (cs:=byC [0]) (r:=[]) (hw.own _ (show InS (b99,.cells (byC [0]).toArray 5 (0,0)) _ from in_).mem) rfl⟩) (V.byC_one _) om_ om_) fun o97 ho97=>?_
      rw[← V.byC_append,List.append_assoc,← est] at ho97⊢
      refine pA_ 9 ?_
      exact roundA ((i.1+1,o97)) ⟨by simp only;omega,ho97⟩ (by simp only;omega)
    ·have hi9:i.1=rNeedB k.1:=by have h8:=mt in_lt.2 (show ¬rInN k.1+i.1<64*(k.1+1) by omega);omega
     refine pA_ 11 ?_
     rw[hi9,in_end,in_need] at hi2
     rw[hi9,in_end,in_need,at_need]
     exact roundA ((k.1+1,i.2)) ⟨by simp only;omega,hi2⟩ (by simp only;omega)
  ·have hk9:k.1=spanF x.cls:=by omega
   refine pA_ 13 ?_
   rw[hk9,out_enc hx hsp,outN_of hsp] at hk2⊢
   exact fi_ k.2 hk2
theorem rencode_c (x:Blk)(hl:x.key.length≤100000∧x.val.length≤100000):Mz Tryz.prog 31 [.agg (blC x).toArray] (fun o:V.OwnO=>ownOk 1 (encR x).length (byC (encR x)) o) (fun o=> .tuple #[ownV (encR x).length o,.int .i64 (if mayF x=true then 0 else 3)]) (fun o=>[ownG 5 (byC (encR x)) o]):=by
 intro w
 refine Cb_ Tryz.func31 rfl Tryz.ntmps31<|Sq<|Rg<|Le XA fun b1 _=>pA_ 7 ?_
 refine Lv (Lw (l:=blC x))<|Le (Cz_ (rmay_c x hl)) fun _ _=>pA_ 3 ?_
 refine Cd_ rfl (fun h6=>?_) fun h6=>?_
 ·have hm:mayF x=false:=by simpa using h6
  refine pA_ 9 ?_
  have e8:encR x=[]:=by unfold encR;rw[if_neg (by simp[hm])]
  rw[e8,if_neg (by simp[hm])]
  intro w' hw;exact⟨none,⟨rfl,rfl⟩,rfl,(hw.pick (ss:=[]) .nil).perm (.refl _)⟩
 ·have hm:mayF x=true:=by simpa using h6
  refine pA_ 4 ?_
  refine Lv (Lw (l:=blC x))<|Le (Cn_ (rlines_c x (may_num hm) (may_span hm) (may_cap hm))) fun o ho=>pA_ 6 ?_
  have e8:encR x=encL x:=by unfold encR;rw[if_pos hm]
  have e9:=encL_len hm
  rw[e8,if_pos hm,e9]
  exact fi_ o ho
theorem draft_enc {c:Int}(h:spanF c≠0):(encL ⟨c,0,0,0,0,[],[]⟩).take 64=draftL c:=by
 unfold encL draftL
 rw[if_neg h]
 have h2:=capN_span h
 have e:dataB ⟨c,0,0,0,0,[],[]⟩=List.replicate (capN c) 0:=by unfold dataB;simp
 rw[e]
 exact List.take_left' (headL_len _ (by rw[List.length_replicate];omega))
theorem own_take {sz n k:Nat}{xs:List Value}{g c:Nat}{r:List Value}(h:ownOk sz n xs (some (g,r,c)))(hk:k≤n):ownOk sz k (xs.take (k*sz)) (some (g,xs.drop (k*sz)++r,c)):=by
 obtain⟨h1,h2⟩:=h
 have h3:=Nat.mul_le_mul_right sz hk
 refine⟨by rw[List.length_take];omega,?_⟩
 show(xs.take (k*sz)).length+(xs.drop (k*sz)++r).length=c*sz
 have h2:xs.length+r.length=c*sz:=h2
 rw[List.length_take,List.length_append,List.length_drop]
 omega
theorem rdraft_c (c:Int)(hc:spanF c≠0)(w:World):Calls Tryz.prog 42 [.int .i64 c].toArray w fun e w'=>∃o:V.OwnO,ownOk 1 64 (byC (draftL c)) o∧e= .returned (ownV 64 o)∧Hp ⟨w,[]⟩ ([ownG 5 (byC (draftL c)) o]) w':=by
 have hs:=span_le c
 have hcp:=capN_span hc
 have he:(byC (encL ⟨c,0,0,0,0,[],[]⟩)).take 64=byC (draftL c):=by rw[byC_take,draft_enc hc]
 refine Cb_ Tryz.func42 rfl Tryz.ntmps42<|pA_ 9 ?_
 refine Le (Cz_ (rspan_c c)) fun _ _=>Lv Cm<|LW.re 5 (.bool false) rfl (by congr 1;simp;omega)<|pA_ 8 ?_
 refine Lv (Val.build (blC ⟨c,0,0,0,0,[],[]⟩) Tryz.zeroValue53 Tryz.underlying53 places53 rfl (by rfl))<|Le (Cn_ (rlines_c ⟨c,0,0,0,0,[],[]⟩ ⟨⟨by simp,by simp⟩,⟨by simp,by simp⟩,⟨by simp,by simp⟩,by simp⟩ hc (by simp))) fun o ho=>?_
 obtain⟨g,r,cp,rfl⟩:=own_some ho (by simp only;omega)
 have hcap:64*spanF c≤cp:=by
  have h8:=ho.1
  have h9:_+r.length=cp*1:=ho.2
  simp only at h8
  omega
 have ho2:=own_take (k:=64) ho (by simp only;omega)
 refine Lv (Val.slice (0) (64) (cp) rfl Tryz.underlying54 Tryz.sizeOf5 rfl ⟨_,rfl⟩ rfl (fun _=>rfl) om_ om_ om_)<|LW.re 9 (.slice (some ⟨g,0,none⟩) 64 cp) rfl (by simp)<|pA_ 5 ?_
 rw[show 64*1=64 from rfl,he] at ho2
 intro w' hw
 refine⟨some (g,(byC (encL ⟨c,0,0,0,0,[],[]⟩)).drop 64++r,cp),ho2,rfl,?_⟩
 have h7:byC (draftL c)++((byC (encL ⟨c,0,0,0,0,[],[]⟩)).drop 64++r)=byC (encL ⟨c,0,0,0,0,[],[]⟩)++r:=by rw[← he,← List.append_assoc,List.take_append_drop]
 rw[V.ownG_some,h7]
 exact hw.pick pk_
end
section
attribute [local irreducible] V.CW V.LW V.QW V.RW V.PQ V.Val V.Eff V.Qcall
open V (str byC ownV ownG ownS ownOk)
theorem rdecode_c (l:List UInt8)(p:Option Addr)(cp:Nat)(hl:l.length≤1000)(hc:l.length≤cp)(w:World)(hp:V.slAt w p 1 byE l):Calls Tryz.prog 86 [.slice p l.length cp].toArray w fun e w'=>e= .returned (decV (decF l))∧Below w.heap.size w w':=by
 refine Cb_ Tryz.func86 rfl Tryz.ntmps86<|Sq<|Rg<|Le AA fun b2 _=>pA_ 10 ?_
 refine LW.split (d:=12) rfl (fun h12=>?_) (fun h12=>?_)
 ·replace h12:=bT h12
  refine Lp<|Lp<|Lp<|Lp<|Lv Pt<|Lv Mv<|Lp<|Lp<|Lp<|Lp<|Lp<|Lp<|Lp<|Lp<|Lp<|Lv Pt<|Nl<|Ps<|Ct<|Sq<|Rg<|Lv (Bd (blC blk0))<|LeN (StW (cs:=blC blk0)) fun _ _=>Lv Av<|Nl<|Ps<|Rt<|Tr<|PQ.retCT rfl rfl rfl in_ Tryz.isAgg53 (by exact Tryz.sizeOf53) ?_
  rw[dec_ref,if_neg (fun hn=>by omega)]
  exact fb_
 ·replace h12:=bF h12
  obtain⟨pb,po,u0,rfl,hpb,hu0,hpr⟩:=V.slAt_at hp rfl (k:=0) om_
  obtain⟨u1,hu1⟩:∃u,l[1]? =some u:=⟨l[1]'om_,by simp⟩
  obtain⟨u2,hu2⟩:∃u,l[2]? =some u:=⟨l[2]'om_,by simp⟩
  obtain⟨u3,hu3⟩:∃u,l[3]? =some u:=⟨l[3]'om_,by simp⟩
  have hk3:keysN l=u3.toNat:=by unfold keysN;rw[hu3];rfl
  have hu256:=u3.toNat_lt
  have e8:((l.drop 8).take 8).length=8:=by rw[List.length_take,List.length_drop];omega
  have e16:((l.drop 16).take 8).length=8:=by rw[List.length_take,List.length_drop];omega
  have e24:((l.drop 24).take 8).length=8:=by rw[List.length_take,List.length_drop];omega
  have e4:((l.drop 4).take 2).length=2:=by rw[List.length_take,List.length_drop];omega
  have e36:((l.drop 36).take 28).length=28:=by rw[List.length_take,List.length_drop];omega
  have hvn:valsN l=nmF ((l.drop 4).take 2):=by unfold valsN;rw[getN_num l 4 om_ om_];rfl
  have hv2:nmF ((l.drop 4).take 2)<65536:=by
   have h1:=nmF_lt ((l.drop 4).take 2)
   rw[e4] at h1
   exact h1
  have hsc:=spanF_cases ((u1.toNat:Nat):Int)
  refine Lv Mv<|Lv (Val.indexAddrN (i:=1) rfl rfl Tryz.underlying54 Tryz.sizeOf5 om_)<|Lv (Val.loadO rfl Tryz.isAgg5 hpb (by simp[ids]) (hpr 1 u1 hu1 0 _ rfl))<|pA_ 3 ?_
  refine LW.split (d:=18) rfl (fun h18=>?_) (fun h18=>?_)
  ·replace h18:=bT h18
   refine Lp<|Lp<|Lp<|Lp<|Lp<|Lp<|Lp<|Lp<|Lp<|Lv Pt<|Nl<|Ps<|Ct<|Sq<|Rg<|Lv (Bd (blC blk0))<|LeN (StW (cs:=blC blk0)) fun _ _=>Lv Av<|Nl<|Ps<|Rt<|Tr<|PQ.retCT rfl rfl rfl in_ Tryz.isAgg53 (by exact Tryz.sizeOf53) ?_
   rw[dec_ref,hu1,hu2,if_neg (fun hn=>by simp only[Option.getD_some] at hn;omega)]
   exact fb_
  ·replace h18:=bF h18
   refine pA_ 3 ?_
   refine Lv (Val.indexAddrN (i:=1) rfl rfl Tryz.underlying54 Tryz.sizeOf5 om_)<|Lv (Val.loadO rfl Tryz.isAgg5 hpb (by simp[ids]) (hpr 1 u1 hu1 0 _ rfl))<|Lv Cv<|LW.re 24 (.int .i64 ((u1.toNat:Nat):Int)) rfl (by congr 1;exact IntWalk.i64_in _ (by have:=u1.toNat_lt;omega))<|Le (Cz_ (rspan_c ((u1.toNat:Nat):Int))) fun _ _=>pA_ 5 ?_
   refine Cd_ rfl (fun h28=>?_) fun h28=>?_
   ·refine Sq<|Rg<|Lv (Bd (blC blk0))<|LeN (StW (cs:=blC blk0)) fun _ _=>Lv Av<|Nl<|Ps<|Rt<|Tr<|PQ.retCT rfl rfl rfl in_ Tryz.isAgg53 (by exact Tryz.sizeOf53) ?_
    rw[dec_ref,hu1,hu2,if_neg (fun hn=>by simp only[Option.getD_some] at hn;omega)]
    exact fb_
   ·have hspl:l.length=64*spanF ((u1.toNat:Nat):Int):=by omega
    have hsp1:1≤spanF ((u1.toNat:Nat):Int)∧spanF ((u1.toNat:Nat):Int)≤8:=by omega
    refine pA_ 3 ?_
    refine Dr ([])<|Rv 0 rfl Mv<|Rv 1 rfl (Val.indexAddrN (i:=1) rfl rfl Tryz.underlying54 Tryz.sizeOf5 om_)<|Rv 2 rfl (Val.loadO rfl Tryz.isAgg5 hpb (by simp[ids]) (hpr 1 u1 hu1 0 _ rfl))<|Rv 3 rfl Cv<|RW.re 33 (.int .i64 ((u1.toNat:Nat):Int)) rfl (by congr 1;exact IntWalk.i64_in _ (by have:=u1.toNat_lt;omega))<|Rv 4 rfl Mv<|Rv 5 rfl (Val.indexAddrN (i:=2) rfl rfl Tryz.underlying54 Tryz.sizeOf5 om_)<|Rv 6 rfl (Val.loadO rfl Tryz.isAgg5 hpb (by simp[ids]) (hpr 2 u2 hu2 0 _ rfl))<|Rv 7 rfl Cv<|RW.re 37 (.int .i64 ((u2.toNat:Nat):Int)) rfl (by congr 1;exact IntWalk.i64_in _ (by have:=u2.toNat_lt;omega))<|Rv 8 rfl (Bd (blC ⟨((u1.toNat:Nat):Int),((u2.toNat:Nat):Int),0,0,0,[],[]⟩))<|Re 9 rfl AA fun b4 _=>ReN 10 rfl StW fun _ _=>pA_ 5 ?_
    refine Lv (Val.slice (8) (16) (cp) rfl Tryz.underlying54 Tryz.sizeOf5 ⟨_,rfl⟩ ⟨_,rfl⟩ rfl (fun _=>rfl) om_ om_ om_)<|LW.re 40 (.slice (some ⟨pb,po+8,none⟩) ((l.drop (8)).take 8).length (cp-(8))) rfl (by rw[if_neg om_,e8]<;>simp<;>omega)<|Le (CV fun w hw=>(by have h8:=rnum_c ((l.drop 8).take 8) (some ⟨pb,po+8,none⟩) (cp-8) om_ w (slAt_sub (hw.slAt hp (by simp[ids])) 8 8);exact h8)) fun _ _=>LW.re 41 (.int .u64 (getN l 8 8)) rfl (by rw[getN_num l 8 om_ om_])<|Lv (Fa 2 22)<|LeN StS fun _ _=>pA_ 5 ?_
    refine Lv (Val.slice (16) (24) (cp) rfl Tryz.underlying54 Tryz.sizeOf5 ⟨_,rfl⟩ ⟨_,rfl⟩ rfl (fun _=>rfl) om_ om_ om_)<|LW.re 44 (.slice (some ⟨pb,po+16,none⟩) ((l.drop (16)).take 8).length (cp-(16))) rfl (by rw[if_neg om_,e16]<;>simp<;>omega)<|Le (CV fun w hw=>(by have h8:=rnum_c ((l.drop 16).take 8) (some ⟨pb,po+16,none⟩) (cp-16) om_ w (slAt_sub (hw.slAt hp (by simp[ids])) 16 8);exact h8)) ?_
    intro _ _
    refine LW.re 45 (.int .u64 (getN l 16 8)) rfl (by rw[getN_num l 16 om_ om_])<|Lv (Fa 3 22)<|LeN StS fun _ _=>pA_ 5 ?_
    refine Lv (Val.slice (24) (32) (cp) rfl Tryz.underlying54 Tryz.sizeOf5 ⟨_,rfl⟩ ⟨_,rfl⟩ rfl (fun _=>rfl) om_ om_ om_)<|LW.re 48 (.slice (some ⟨pb,po+24,none⟩) ((l.drop (24)).take 8).length (cp-(24))) rfl (by rw[if_neg om_,e24]<;>simp<;>omega)<|Le (CV fun w hw=>(by have h8:=rnum_c ((l.drop 24).take 8) (some ⟨pb,po+24,none⟩) (cp-24) om_ w (slAt_sub (hw.slAt hp (by simp[ids])) 24 8);exact h8)) fun _ _=>LW.re 49 (.int .u64 (getN l 24 8)) rfl (by rw[getN_num l 24 om_ om_])<|Lv (Fa 4 22)<|LeN StS fun _ _=>pA_ 5 ?_
    refine Lv (Val.slice (36) (64) (cp) rfl Tryz.underlying54 Tryz.sizeOf5 ⟨_,rfl⟩ ⟨_,rfl⟩ rfl (fun _=>rfl) om_ om_ om_)<|LW.re 52 (.slice (some ⟨pb,po+36,none⟩) ((l.drop (36)).take 28).length (cp-(36))) rfl (by rw[if_neg om_,e36]<;>simp<;>omega)<|Lv (Val.convSl (l:=(l.drop (36)).take 28) rfl Tryz.underlying54 Tryz.underlying5 Tryz.underlying9 (fun w hw=>slAt_sub (hw.slAt hp (by simp[ids])) (36) 28))<|pA_ 10 ?_
    refine CW.loop (γ:=Nat) (fun j=>[(0,.slice (some ⟨pb,po,none⟩) l.length cp),(2,.pointer (some ⟨b2,0,none⟩)),(4,.pointer (some ⟨b4,0,none⟩)),(5,str (dataTo l j)),(6,.int .i64 ((j+1:Nat):Int))]) (fun j=>[[(b2,.cells (blC blk0).toArray 53 (0,0))],[(b4,.cells (blC ⟨((u1.toNat:Nat):Int),((u2.toNat:Nat):Int),getN l 8 8,getN l 16 8,getN l 24 8,[],[]⟩).toArray 53 (0,0))]]) (fun j=>j+1≤spanF ((u1.toNat:Nat):Int)) (fun j=>spanF ((u1.toNat:Nat):Int)-j) (0) om_ (by refine⟨rfl,rfl,rfl,?_,rfl,trivial⟩;show some (str _)=some (str _);simp[dataTo]) pk_ ?_
    intro j
    intro hj1
    refine pA_ 5 ?_
    refine Lv Ld<|Le (Cz_ (rspan_c ((u1.toNat:Nat):Int))) fun _ _=>pA_ 3 ?_
    refine Cd_ rfl (fun h58=>?_) fun h58=>?_
    ·have hj9:j+1<spanF ((u1.toNat:Nat):Int):=by omega
     have hdt:=dataTo_len l j om_
     have e69:((l.drop (64*(j+1)+1)).take 63).length=63:=by rw[List.length_take,List.length_drop];omega
     refine pA_ 10 ?_
     refine LW.re 65 (.int .i64 ((64*(j+1)+1:Nat):Int)) rfl (by congr 1)<|pA_ 3 ?_
     refine LW.re 68 (.int .i64 ((64*(j+1)+64:Nat):Int)) rfl (by congr 1)<|Lv (Val.slice (64*(j+1)+1) (64*(j+1)+64) (cp) rfl Tryz.underlying54 Tryz.sizeOf5 ⟨_,rfl⟩ ⟨_,rfl⟩ rfl (fun _=>rfl) om_ om_ om_)<|LW.re 69 (.slice (some ⟨pb,po+64*(j+1)+1,none⟩) ((l.drop (64*(j+1)+1)).take 63).length (cp-(64*(j+1)+1))) rfl (by rw[if_neg om_,e69]<;>simp<;>omega)<|Lv (Val.convSl (l:=(l.drop (64*(j+1)+1)).take 63) rfl Tryz.underlying54 Tryz.underlying5 Tryz.underlying9 (fun w hw=>slAt_sub (hw.slAt hp (by simp[ids])) (64*(j+1)+1) 63))<|Lv (Val.catStr rfl rfl (by rw[e69];omega))<|LW.re 71 (str (dataTo l (j+1))) rfl (by rw[dataTo_succ])<|pA_ 9 ?_
     exact roundA (j+1) om_ om_
    ·have hj9:j+1=spanF ((u1.toNat:Nat):Int):=by omega
     have hdt:=dataTo_len l j om_
     have hdl:dataTo l j=dataL l:=by unfold dataL;congr 1;omega
     rw[hdl] at*
     refine pA_ 6 ?_
     refine Qt<|Qv Mv<|Qv (Val.indexAddrN (i:=3) rfl rfl Tryz.underlying54 Tryz.sizeOf5 om_)<|Qv (Val.loadO rfl Tryz.isAgg5 hpb (by simp[ids]) (hpr 3 u3 hu3 0 _ rfl))<|Qv Cv<|QW.re 75 (.int .i64 ((keysN l:Nat):Int)) rfl (by rw[hk3];congr 1;exact IntWalk.i64_in _ om_)<|Qv Mv<|Qv (Val.slice (4) (6) (cp) rfl Tryz.underlying54 Tryz.sizeOf5 ⟨_,rfl⟩ ⟨_,rfl⟩ rfl (fun _=>rfl) om_ om_ om_)<|QW.re 77 (.slice (some ⟨pb,po+4,none⟩) ((l.drop (4)).take 2).length (cp-(4))) rfl (by rw[if_neg om_,e4]<;>simp<;>omega)<|Qc (QV fun w hw=>(by have h8:=rnum_c ((l.drop 4).take 2) (some ⟨pb,po+4,none⟩) (cp-4) om_ w (slAt_sub (hw.slAt hp (by simp[ids])) 4 2);exact h8))<|Qv Cv<|QW.re 79 (.int .i64 ((valsN l:Nat):Int)) rfl (by rw[hvn];congr 1;exact IntWalk.i64_in _ om_)<|pA_ 15 ?_
     refine Cd_ rfl (fun h85=>?_) fun h85=>?_
     ·refine Sq<|Rg<|Lv (Bd (blC blk0))<|LeN (StW (cs:=blC blk0)) fun _ _=>Lv Av<|Nl<|Ps<|Rt<|Tr<|PQ.retCT rfl rfl rfl in_ Tryz.isAgg53 (by exact Tryz.sizeOf53) ?_
      rw[dec_ref,hu1,hu2,if_neg (fun hn=>by simp only[Option.getD_some] at hn;omega)]
      exact fb_
     ·refine pA_ 6 ?_
      refine Lv (Val.sliceStr 0 (keysN l) rfl Tryz.underlying9 rfl ⟨_,rfl⟩ om_ om_)<|LW.re 89 (str ((dataL l).take (keysN l))) rfl (by simp)<|Lv (Fa 5 9)<|LeN StS fun _ _=>pA_ 9 ?_
      refine LW.re 95 (.int .i64 ((keysN l+valsN l:Nat):Int)) rfl (by congr 1)<|Lv (Val.sliceStr (keysN l) (keysN l+valsN l) rfl Tryz.underlying9 ⟨_,rfl⟩ ⟨_,rfl⟩ om_ om_)<|LW.re 96 (str (((dataL l).drop (keysN l)).take (valsN l))) rfl (by rw[Nat.add_sub_cancel_left])<|Lv (Fa 6 9)<|LeN StS fun _ _=>pA_ 4 ?_
      refine Dr ([[(b4,.cells (blC (decX l u1.toNat u2.toNat)).toArray 53 (0,0))]])<|Rv 0 rfl (Lw (l:=blC (decX l u1.toNat u2.toNat)))<|Re 1 rfl (Cz_ (rmay_c (decX l u1.toNat u2.toNat) ⟨by unfold decX;rw[List.length_take];omega,by unfold decX;rw[List.length_take,List.length_drop];omega⟩)) fun _ _=>pR_ [2,3] ?_
      refine RW.split (d:=101) rfl (fun h101=>?_) (fun h101=>?_)
      ·replace h101:=bT h101
       have hmx:¬mayF (decX l u1.toNat u2.toNat)=true:=by simpa using h101
       refine Rp 4 rfl<|Rp 5 rfl<|Rp 6 rfl<|Rp 7 rfl<|Rp 8 rfl<|Rp 9 rfl<|Rv 10 rfl Pt<|Rd<|Ps<|Ct<|Sq<|Rg<|Lv (Bd (blC blk0))<|LeN (StW (cs:=blC blk0)) fun _ _=>Lv Av<|Nl<|Ps<|Rt<|Tr<|PQ.retCT rfl rfl rfl in_ Tryz.isAgg53 (by exact Tryz.sizeOf53) ?_
       rw[dec_ref,hu1,hu2,if_neg (fun hn=>by simp only[Option.getD_some] at hn;exact hmx hn.2.2.2.2.1)]
       exact fb_
      ·replace h101:=bF h101
       have hmx:mayF (decX l u1.toNat u2.toNat)=true:=by simpa using h101
       refine Rv 4 rfl (Lw (l:=blC (decX l u1.toNat u2.toNat)))<|Rv 7 rfl Mv<|Rv 8 rfl (Val.convSl rfl Tryz.underlying54 Tryz.underlying5 Tryz.underlying9 (fun w hw=>hw.slAt hp (by simp[ids])))<|Re 5 rfl (Cn_ (rlines_c (decX l u1.toNat u2.toNat) (may_num hmx) (may_span hmx) (may_cap hmx))) fun o ho=>RW.re 103 (ownV (encL (decX l u1.toNat u2.toNat)).length o) rfl (by rw[encL_len hmx])<|Re 6 rfl (Eff.ofVal (Val.convBytes (l:=encL (decX l u1.toNat u2.toNat)) (o:=o) (pk:=[ownG 5 (byC (encL (decX l u1.toNat u2.toNat))) (o)]) rfl Tryz.underlying54 Tryz.underlying5 Tryz.underlying9 (by rw[encL_len hmx];exact ho) pk_ (by simp))) fun _ _=>Rv 9 rfl NS<|Rv 10 rfl Pf<|Rd<|Ps ?_
       refine Cd_ rfl (fun h108=>?_) fun h108=>?_
       ·have h107:¬encL (decX l u1.toNat u2.toNat)=l:=by simpa using h108
        refine Sq<|Rg<|Lv (Bd (blC blk0))<|LeN (StW (cs:=blC blk0)) fun _ _=>Lv Av<|Nl<|Ps<|Rt<|Tr<|PQ.retCT rfl rfl rfl in_ Tryz.isAgg53 (by exact Tryz.sizeOf53) ?_
        rw[dec_ref,hu1,hu2,if_neg (fun hn=>by simp only[Option.getD_some] at hn;exact h107 hn.2.2.2.2.2)]
        exact fb_
       ·have h107:encL (decX l u1.toNat u2.toNat)=l:=by simpa using h108
        refine Sk<|Ps<|Sq<|Rg<|Lv (Lw (l:=blC (decX l u1.toNat u2.toNat)))<|LeN (StW (cs:=blC (decX l u1.toNat u2.toNat))) fun _ _=>Lv Av<|Nl<|Ps<|Rt<|PQ.retCT rfl rfl rfl in_ Tryz.isAgg53 (by exact Tryz.sizeOf53) ?_
        rw[dec_ref,hu1,hu2,if_pos (by simp only[Option.getD_some];exact⟨by omega,by omega,by omega,by omega,hmx,h107⟩)]
        exact fb_
end
section
attribute [local irreducible] V.CW V.LW V.QW V.RW V.PQ V.Val V.Eff V.Qcall
open V (str byC ownV ownG ownS ownOk)
instance:Und Tryz.prog 245 (dOf Tryz.underlying245):=⟨Tryz.underlying245⟩
instance:Zer Tryz.prog 245 (zOf Tryz.zeroValue245):=⟨Tryz.zeroValue245⟩
theorem own_el {α:Type}{enc:α→List Value}{sz:Nat}(hlen:∀x,(enc x).length=sz){l:List α}{i:Nat}{x:α}(h:l[i]? =some x)(r:List Value):∃r2,(l.flatMap enc++r).drop (i*sz)=enc x++r2:=by
 obtain⟨hi,hv⟩:=List.getElem?_eq_some_iff.1 h
 have h1:=List.take_append_drop i l
 rw[List.drop_eq_getElem_cons hi,hv] at h1
 refine⟨(l.drop (i+1)).flatMap enc++r,?_⟩
 have hl:((l.take i).flatMap enc).length=i*sz:=by rw[V.flatMap_len hlen,List.length_take];congr 1;omega
 conv=>lhs;rw[← h1]
 rw[List.flatMap_append,List.flatMap_cons,List.append_assoc,List.drop_left' hl,List.append_assoc]
theorem own_cell {α:Type}{enc:α→List Value}{sz:Nat}(hlen:∀x,(enc x).length=sz){l:List α}{i:Nat}{x:α}(h:l[i]? =some x){j:Nat}{v:Value}(hv:(enc x)[j]? =some v)(r:List Value):(l.flatMap enc++r)[i*sz+j]? =some v:=by
 obtain⟨r2,h2⟩:=own_el hlen h r
 have h3:=congrArg (fun z=>z[j]?) h2
 simp only[List.getElem?_drop] at h3
 rw[h3,List.getElem?_append_left (List.getElem?_eq_some_iff.1 hv).1,hv]
theorem find_at {α:Type}{p:α→Bool}{l:List α}{k:Nat}{x:α}(hx:l[k]? =some x)(hp:p x=true)(hn:(l.take k).find? p=none):l.find? p=some x:=by
 obtain⟨hi,hv⟩:=List.getElem?_eq_some_iff.1 hx
 have h1:=List.take_append_drop k l
 rw[List.drop_eq_getElem_cons hi,hv] at h1
 rw[← h1,List.find?_append,hn,List.find?_cons_of_pos hp]
 rfl
theorem find_step {α:Type}{p:α→Bool}{l:List α}{k:Nat}{x:α}(hx:l[k]? =some x)(hp:p x=false)(hn:(l.take k).find? p=none):(l.take (k+1)).find? p=none:=by
 rw[List.take_add_one,hx,List.find?_append,hn]
 simp[hp]
theorem insT_none {x:Int×Int}:∀{T:List (Int×Int)},(∀t∈T,¬x.1<t.1)→insT T x=T++[x]
 |[],_=>rfl
 |y::r,h=>by
  rw[insT,if_neg (h y List.mem_cons_self),insT_none fun t ht=>h t (List.mem_cons_of_mem _ ht)];rfl
theorem insT_app {x y:Int×Int}{B:List (Int×Int)}(hy:x.1<y.1):∀{A:List (Int×Int)},(∀t∈A,¬x.1<t.1)→insT (A++y::B) x=A++x::y::B
 |[],_=>by rw[List.nil_append,insT,if_pos hy];rfl
 |z::r,h=>by
  rw[List.cons_append,insT,if_neg (h z List.mem_cons_self),insT_app hy fun t ht=>h t (List.mem_cons_of_mem _ ht)];rfl
theorem insT_snoc {x y:Int×Int}:∀{A:List (Int×Int)},(∃t∈A,x.1<t.1)→insT (A++[y]) x=insT A x++[y]
 |[],h=>by obtain⟨t,ht,_⟩:=h;cases ht
 |z::r,h=>by
  rw[List.cons_append,insT,insT]
  by_cases hz:x.1<z.1
  ·rw[if_pos hz,if_pos hz];rfl
  ·rw[if_neg hz,if_neg hz,insT_snoc (A:=r)]
   ·rfl
   ·obtain⟨t,ht,h2⟩:=h
    rcases List.mem_cons.1 ht with rfl|ht
    ·exact absurd h2 hz
    ·exact⟨t,ht,h2⟩
theorem insT_len (x:Int×Int):∀T:List (Int×Int),(insT T x).length=T.length+1
 |[]=>rfl
 |y::r=>by
  rw[insT];split
  ·rfl
  ·rw[List.length_cons,insT_len x r,List.length_cons]
abbrev rpS (pb:Nat)(n:Int)(T:List (Int×Int))(o:V.OwnO):Sg:=[[(pb,.cells [.int .i64 n,ownV T.length o].toArray 245 (0,0))],ownG 268 (T.flatMap tkC) o]
theorem rof_g (pb:Nat)(n:Int)(T:List (Int×Int))(o:V.OwnO)(hT:T.length≤100000)(ho:ownOk 2 T.length (T.flatMap tkC) o)(line:Int):Mo Tryz.prog 158 [.pointer (some ⟨pb,0,none⟩),.int .i64 line] (rpS pb n T o) (fun c:Int=>True) (fun c=> .tuple #[.int .i64 c,.bool (ofT T line)]) (fun _=>rpS pb n T o):=by
 intro w hs
 refine Ca_ Tryz.func158 rfl Tryz.ntmps158 hs<|pA_ 13 ?_
 refine loopA (γ:=Nat) (fun k=>[(0,.pointer (some ⟨pb,0,none⟩)),(1,.int .i64 line),(6,.int .i64 (k:Nat))]) (fun _=>rpS pb n T o) (fun k=>k≤T.length∧(T.take k).find? (fun t=>decide (t.1=line))=none) (fun k=>T.length-k) (0) ⟨Nat.zero_le _,rfl⟩ fun k=>?_
 rintro⟨hk1,hk2⟩
 refine pA_ 7 ?_
 refine Lv (Ld (v:=ownV T.length o))<|Lv (Val.lenOwn rfl Tryz.underlying181 ho)<|pA_ 3 ?_
 refine Cd_ rfl (fun h13=>?_) fun h13=>?_
 ·have hk9:k<T.length:=by omega
  obtain⟨g,r,cp,rfl⟩:=own_some ho om_
  obtain⟨y,hy⟩:∃y,T[k]? =some y:=⟨T[k]'om_,by simp⟩
  refine pA_ 9 ?_
  refine Lv (Ld (v:=ownV T.length (some (g,r,cp))))<|Lv Mv<|Lv (Val.indexAddrN (i:=k) rfl rfl Tryz.underlying181 Tryz.sizeOf268 om_)<|Lv (Fa 0 3)<|LW.re 22 (.pointer (some ⟨g,k*2+0,none⟩)) rfl (by simp)<|Lv (Ld (v:= .int .i64 y.1) (hl:=own_cell tkC_len hy rfl r))<|pA_ 4 ?_
  refine Cd_ rfl (fun h25=>?_) fun h25=>?_
  ·have h25:y.1=line:=h25
   refine pA_ 5 ?_
   refine Lv (Ld (v:=ownV T.length (some (g,r,cp))))<|Lv Mv<|Lv (Val.indexAddrN (i:=k) rfl rfl Tryz.underlying181 Tryz.sizeOf268 om_)<|Lv (Fa 1 3)<|LW.re 32 (.pointer (some ⟨g,k*2+1,none⟩)) rfl (by simp)<|Lv (Ld (v:= .int .i64 y.2) (hl:=own_cell tkC_len hy rfl r))<|pA_ 11 ?_
   have e8:ofT T line=true:=List.any_eq_true.2 ⟨y,List.mem_of_getElem? hy,decide_eq_true h25⟩
   rw[e8]
   exact fi_ y.2 trivial
  ·have h25:¬y.1=line:=h25
   have hk3:=find_step (p:=fun t=>decide (t.1=line)) hy (decide_eq_false h25) hk2
   refine pA_ 8 ?_
   exact roundA (k+1) ⟨by omega,hk3⟩ om_
 ·have hk9:T.length≤k:=by omega
  refine pA_ 13 ?_
  have e8:ofT T line=false:=by
   rw[List.take_of_length_le hk9] at hk2
   exact List.any_eq_false.2 fun t ht=>by have h7:=List.find?_eq_none.1 hk2 t ht;simpa using h7
  rw[e8]
  exact fi_ 0 trivial
theorem rcls_g (pb:Nat)(n:Int)(T:List (Int×Int))(o:V.OwnO)(hT:T.length≤100000)(ho:ownOk 2 T.length (T.flatMap tkC) o)(j:Int):Mo Tryz.prog 159 [.pointer (some ⟨pb,0,none⟩),.int .i64 j] (rpS pb n T o) (fun _u:Unit=>True) (fun _=> .int .i64 (clsT T j)) (fun _=>rpS pb n T o):=by
 intro w hs
 refine Ca_ Tryz.func159 rfl Tryz.ntmps159 hs<|pA_ 12 ?_
 refine loopA (γ:=Nat) (fun k=>[(0,.pointer (some ⟨pb,0,none⟩)),(1,.int .i64 j),(5,.int .i64 (k:Nat))]) (fun _=>rpS pb n T o) (fun k=>k≤T.length∧(T.take k).find? (fun t=>decide (slabOfF t.1=j))=none) (fun k=>T.length-k) (0) ⟨Nat.zero_le _,rfl⟩ fun k=>?_
 rintro⟨hk1,hk2⟩
 refine pA_ 7 ?_
 refine Lv (Ld (v:=ownV T.length o))<|Lv (Val.lenOwn rfl Tryz.underlying181 ho)<|pA_ 3 ?_
 refine Cd_ rfl (fun h12=>?_) fun h12=>?_
 ·have hk9:k<T.length:=by omega
  obtain⟨g,r,cp,rfl⟩:=own_some ho om_
  obtain⟨y,hy⟩:∃y,T[k]? =some y:=⟨T[k]'om_,by simp⟩
  refine pA_ 9 ?_
  refine Lv (Ld (v:=ownV T.length (some (g,r,cp))))<|Lv Mv<|Lv (Val.indexAddrN (i:=k) rfl rfl Tryz.underlying181 Tryz.sizeOf268 om_)<|Lv (Fa 0 3)<|LW.re 21 (.pointer (some ⟨g,k*2+0,none⟩)) rfl (by simp)<|Lv (Ld (v:= .int .i64 y.1) (hl:=own_cell tkC_len hy rfl r))<|Le (Cz_ (rslabOf_c y.1)) fun _ _=>pA_ 4 ?_
  refine Cd_ rfl (fun h25=>?_) fun h25=>?_
  ·have h25:slabOfF y.1=j:=h25
   refine pA_ 5 ?_
   refine Lv (Ld (v:=ownV T.length (some (g,r,cp))))<|Lv Mv<|Lv (Val.indexAddrN (i:=k) rfl rfl Tryz.underlying181 Tryz.sizeOf268 om_)<|Lv (Fa 1 3)<|LW.re 32 (.pointer (some ⟨g,k*2+1,none⟩)) rfl (by simp)<|Lv (Ld (v:= .int .i64 y.2) (hl:=own_cell tkC_len hy rfl r))<|pA_ 10 ?_
   have e8:clsT T j=y.2:=by unfold clsT;rw[find_at (p:=fun t=>decide (slabOfF t.1=j)) hy (decide_eq_true h25) hk2];rfl
   rw[e8]
   exact fi_ () trivial
  ·have h25:¬slabOfF y.1=j:=h25
   have hk3:=find_step (p:=fun t=>decide (slabOfF t.1=j)) hy (decide_eq_false h25) hk2
   refine pA_ 8 ?_
   exact roundA (k+1) ⟨by omega,hk3⟩ om_
 ·have hk9:T.length≤k:=by omega
  refine pA_ 12 ?_
  have e8:clsT T j= -1:=by
   rw[List.take_of_length_le hk9] at hk2
   unfold clsT;rw[hk2];rfl
  rw[e8]
  exact fi_ () trivial
def insU (T:List (Int×Int))(x:Int×Int)(i:Nat)(b:Bool):List (Int×Int):=if b=true then insT (T.take i) x else T.take i
def insJ (T:List (Int×Int))(x:Int×Int)(i:Nat)(b:Bool):Prop:=if b=true then ∃t∈T.take i,x.1<t.1 else ∀t∈T.take i,¬x.1<t.1
theorem insU_A {T:List (Int×Int)}{x y:Int×Int}{i:Nat}(hy:T[i]? =some y)(hj:insJ T x i false)(h:x.1<y.1):insU T x (i+1) true=insU T x i false++[x]++[y]∧insJ T x (i+1) true:=by
 unfold insU insJ at*
 have e:T.take (i+1)=T.take i++[y]:=by rw[List.take_add_one,hy];rfl
 simp only[if_true,Bool.false_eq_true,if_false] at*
 rw[e]
 exact⟨by rw[insT_app h hj];simp,y,by simp,h⟩
theorem insU_B {T:List (Int×Int)}{x y:Int×Int}{i:Nat}(hy:T[i]? =some y)(hj:insJ T x i false)(h:¬x.1<y.1):insU T x (i+1) false=insU T x i false++[y]∧insJ T x (i+1) false:=by
 unfold insU insJ at*
 have e:T.take (i+1)=T.take i++[y]:=by rw[List.take_add_one,hy];rfl
 simp only[Bool.false_eq_true,if_false] at*
 rw[e]
 refine⟨rfl,fun t ht=>?_⟩
 rcases List.mem_append.1 ht with ht|ht
 ·exact hj t ht
 ·rw[List.mem_singleton.1 ht];exact h
theorem insU_C {T:List (Int×Int)}{x y:Int×Int}{i:Nat}(hy:T[i]? =some y)(hj:insJ T x i true):insU T x (i+1) true=insU T x i true++[y]∧insJ T x (i+1) true:=by
 unfold insU insJ at*
 have e:T.take (i+1)=T.take i++[y]:=by rw[List.take_add_one,hy];rfl
 simp only[if_true] at*
 rw[e]
 obtain⟨t,ht,h⟩:=hj
 exact⟨insT_snoc ⟨t,ht,h⟩,t,List.mem_append_left _ ht,h⟩
theorem insU_le (T:List (Int×Int))(x:Int×Int)(i:Nat)(b:Bool):(insU T x i b).length≤T.length+1:=by
 unfold insU;split
 ·rw[insT_len,List.length_take];omega
 ·rw[List.length_take];omega
theorem insU_end1 {T:List (Int×Int)}{x:Int×Int}{i:Nat}(h:T.length≤i):insU T x i true=insT T x:=by unfold insU;rw[if_pos rfl,List.take_of_length_le h]
theorem insU_end0 {T:List (Int×Int)}{x:Int×Int}{i:Nat}(h:T.length≤i)(hj:insJ T x i false):insU T x i false++[x]=insT T x:=by
 unfold insU insJ at*
 simp only[Bool.false_eq_true,if_false] at*
 rw[List.take_of_length_le h] at*
 exact(insT_none hj).symm
theorem rput_g (pb:Nat)(n:Int)(T:List (Int×Int))(o:V.OwnO)(hT:T.length≤100000)(ho:ownOk 2 T.length (T.flatMap tkC) o)(line c:Int):Mo Tryz.prog 160 [.pointer (some ⟨pb,0,none⟩),.int .i64 line,.int .i64 c] (rpS pb n T o) (fun o':V.OwnO=>ownOk 2 (insT T (line,c)).length ((insT T (line,c)).flatMap tkC) o') (fun _=> .tuple #[]) (fun o'=>rpS pb n (insT T (line,c)) o'):=by
 intro w hs
 refine Ca_ Tryz.func160 rfl Tryz.ntmps160 hs<|pA_ 17 ?_
 refine V.CW.perm (sg':=ownG 268 ((insU T (line,c) 0 false).flatMap tkC) none::rpS pb n T o) ?_ (.refl _)
 refine loopA (γ:=Nat×Bool×V.OwnO) (fun k=>[(0,.pointer (some ⟨pb,0,none⟩)),(1,.int .i64 line),(2,.int .i64 c),(6,ownV (insU T (line,c) k.1 k.2.1).length k.2.2),(7,.bool k.2.1),(8,.int .i64 (k.1:Nat))]) (fun k=>ownG 268 ((insU T (line,c) k.1 k.2.1).flatMap tkC) k.2.2::rpS pb n T o) (fun k=>k.1≤T.length∧insJ T (line,c) k.1 k.2.1∧ownOk 2 (insU T (line,c) k.1 k.2.1).length ((insU T (line,c) k.1 k.2.1).flatMap tkC) k.2.2) (fun k=>T.length-k.1) ((0,false,none)) ⟨Nat.zero_le _,(by intro t ht;simp at ht),rfl,rfl⟩ fun k=>?_
 rintro⟨hk1,hk2,hk3⟩
 refine pA_ 7 ?_
 refine Lv (Ld (v:=ownV T.length o))<|Lv (Val.lenOwn rfl Tryz.underlying181 ho)<|pA_ 3 ?_
 refine Cd_ rfl (fun h15=>?_) fun h15=>?_
 ·have hk9:k.1<T.length:=by omega
  have hle:=insU_le T (line,c) k.1 k.2.1
  obtain⟨g,r,cp,rfl⟩:=own_some ho om_
  obtain⟨y,hy⟩:∃y,T[k.1]? =some y:=⟨T[k.1]'om_,by simp⟩
  refine pA_ 10 ?_
  refine LW.split (d:=20) rfl (fun h20=>?_) (fun h20=>?_)
  ·replace h20:=bT h20
   have h20:k.2.1=false:=by simpa using h20
   rw[h20] at hk2 hk3 hle⊢
   refine pA_ 3 ?_
   refine Lv (Ld (v:=ownV T.length (some (g,r,cp))))<|Lv Mv<|Lv (Val.indexAddrN (i:=k.1) rfl rfl Tryz.underlying181 Tryz.sizeOf268 om_)<|Lv (Fa 0 3)<|LW.re 27 (.pointer (some ⟨g,k.1*2+0,none⟩)) rfl (by simp)<|Lv (Ld (v:= .int .i64 y.1) (hl:=own_cell tkC_len hy rfl r))<|pA_ 5 ?_
   refine Cd_ rfl (fun h31=>?_) fun h31=>?_
   ·have h31:line<y.1:=h31
    have hst:=insU_A (x:=(line,c)) hy hk2 h31
    have ea:(insU T (line,c) (k.1+1) true).flatMap tkC=(insU T (line,c) k.1 false++[(line,c)]).flatMap tkC++tkC y:=by rw[hst.1];exact List.flatMap_append
    have el:(insU T (line,c) (k.1+1) true).length=(insU T (line,c) k.1 false++[(line,c)]).length+1:=by rw[hst.1];simp
    have hle2:(insU T (line,c) k.1 false++[(line,c)]).length≤T.length+2:=by rw[List.length_append];simp only[List.length_singleton];omega
    refine Sq<|Rg<|Lv Mv<|Lv Mv<|Lv Mv<|Lv (Bd (tkC (line,c)))<|Le (Eff.buildSlice (rfl) [_,_] Tryz.underlying181 Tryz.sizeOf268 (by exact Tryz.zeroValue268) rfl rfl rfl rfl (by rfl)) fun b36 _=>Le (Eff.appendAny (tkC (line,c)) (sz:=2) (bytes:=16) (z:= .agg #[.int .i64 0,.int .i64 0]) (xs:=(insU T (line,c) k.1 false).flatMap tkC) (m0:=(insU T (line,c) k.1 false).length) (o:=k.2.2) (m:=1) (pk:=[ownG 268 ((insU T (line,c) k.1 false).flatMap tkC) (k.2.2)]) rfl rfl Tryz.underlying181 kr_ rfl om_ pk_ (by simp) hk3 (by rfl) (fun hm0=>⟨b36,0,rfl,fun w hw=>V.range_of_block (o:=0) (cs:=tkC (line,c)) (r:=[]) (hw.own _ (show InS (b36,.cells (tkC (line,c)).toArray 268 (0,0)) _ from in_).mem) rfl⟩) (by rfl) om_ om_) fun o37 ho37=>?_
    rw[show(insU T (line,c) k.1 false).flatMap tkC++tkC (line,c)=(insU T (line,c) k.1 false++[(line,c)]).flatMap tkC by rw[List.flatMap_append];rfl,show(insU T (line,c) k.1 false).length+1=(insU T (line,c) k.1 false++[(line,c)]).length by simp] at ho37⊢
    refine Lv Av<|Nl<|Ps<|Rg<|Lv Av<|Nl<|Ps<|Rg<|Lv Mv<|Lv Mv<|Lv Nz<|Lv (Fa 1 181)<|Lv (Ld (v:=ownV T.length (some (g,r,cp))))<|Lv Mv<|Lv (Val.indexAddrN (i:=k.1) rfl rfl Tryz.underlying181 Tryz.sizeOf268 om_)<|LW.re 44 (.pointer (some ⟨g,k.1*2,none⟩)) rfl (by simp)<|Lv (La (tkC y) (r:=(own_el tkC_len hy r).choose) (hl:=(own_el tkC_len hy r).choose_spec))<|Le (Eff.buildSlice (rfl) [_,_] Tryz.underlying181 Tryz.sizeOf268 (by exact Tryz.zeroValue268) rfl rfl rfl rfl (by rfl)) fun b46 _=>Le (Eff.appendAny (tkC y) (sz:=2) (bytes:=16) (z:= .agg #[.int .i64 0,.int .i64 0]) (xs:=((insU T (line,c) k.1 false)++[(line,c)]).flatMap tkC) (m0:=((insU T (line,c) k.1 false)++[(line,c)]).length) (o:=o37) (m:=1) (pk:=[ownG 268 (((insU T (line,c) k.1 false)++[(line,c)]).flatMap tkC) (o37)]) rfl rfl Tryz.underlying181 kr_ rfl om_ pk_ (by simp) ho37 (by rfl) (fun hm0=>⟨b46,0,rfl,fun w hw=>V.range_of_block (o:=0) (cs:=tkC y) (r:=[]) (hw.own _ (show InS (b46,.cells (tkC y).toArray 268 (0,0)) _ from in_).mem) rfl⟩) (by rfl) om_ om_) fun o47 ho47=>?_
    rw[← ea,← el] at ho47⊢
    refine pA_ 9 ?_
    exact roundA ((k.1+1,true,o47)) ⟨by simp only;omega,hst.2,ho47⟩ (by simp only;omega)
   ·have h31:¬line<y.1:=by omega
    have hst:=insU_B (x:=(line,c)) hy hk2 h31
    have ea:(insU T (line,c) (k.1+1) false).flatMap tkC=(insU T (line,c) k.1 false).flatMap tkC++tkC y:=by rw[hst.1];exact List.flatMap_append
    have el:(insU T (line,c) (k.1+1) false).length=(insU T (line,c) k.1 false).length+1:=by rw[hst.1];simp
    refine Sk<|Ps<|Rg<|Lv Mv<|Lv Mv<|Lv Nz<|Lv (Fa 1 181)<|Lv (Ld (v:=ownV T.length (some (g,r,cp))))<|Lv Mv<|Lv (Val.indexAddrN (i:=k.1) rfl rfl Tryz.underlying181 Tryz.sizeOf268 om_)<|LW.re 44 (.pointer (some ⟨g,k.1*2,none⟩)) rfl (by simp)<|Lv (La (tkC y) (r:=(own_el tkC_len hy r).choose) (hl:=(own_el tkC_len hy r).choose_spec))<|Le (Eff.buildSlice (rfl) [_,_] Tryz.underlying181 Tryz.sizeOf268 (by exact Tryz.zeroValue268) rfl rfl rfl rfl (by rfl)) fun b46 _=>Le (Eff.appendAny (tkC y) (sz:=2) (bytes:=16) (z:= .agg #[.int .i64 0,.int .i64 0]) (xs:=(insU T (line,c) k.1 false).flatMap tkC) (m0:=(insU T (line,c) k.1 false).length) (o:=k.2.2) (m:=1) (pk:=[ownG 268 ((insU T (line,c) k.1 false).flatMap tkC) (k.2.2)]) rfl rfl Tryz.underlying181 kr_ rfl om_ pk_ (by simp) hk3 (by rfl) (fun hm0=>⟨b46,0,rfl,fun w hw=>V.range_of_block (o:=0) (cs:=tkC y) (r:=[]) (hw.own _ (show InS (b46,.cells (tkC y).toArray 268 (0,0)) _ from in_).mem) rfl⟩) (by rfl) om_ om_) fun o47 ho47=>?_
    rw[← ea,← el] at ho47⊢
    refine pA_ 9 ?_
    exact roundA ((k.1+1,false,o47)) ⟨by simp only;omega,hst.2,ho47⟩ (by simp only;omega)
  ·replace h20:=bF h20
   have h20:k.2.1=true:=by simpa using h20
   rw[h20] at hk2 hk3 hle⊢
   have hst:=insU_C (x:=(line,c)) hy hk2
   have ea:(insU T (line,c) (k.1+1) true).flatMap tkC=(insU T (line,c) k.1 true).flatMap tkC++tkC y:=by rw[hst.1];exact List.flatMap_append
   have el:(insU T (line,c) (k.1+1) true).length=(insU T (line,c) k.1 true).length+1:=by rw[hst.1];simp
   refine Lp<|Lp<|Lp<|Lp<|Lp<|Lp<|Lp<|Lp<|Lp<|Lp<|Lv Pf<|Nl<|Ps<|Cf<|Sk<|Ps<|Rg<|Lv Mv<|Lv Mv<|Lv Nz<|Lv (Fa 1 181)<|Lv (Ld (v:=ownV T.length (some (g,r,cp))))<|Lv Mv<|Lv (Val.indexAddrN (i:=k.1) rfl rfl Tryz.underlying181 Tryz.sizeOf268 om_)<|LW.re 44 (.pointer (some ⟨g,k.1*2,none⟩)) rfl (by simp)<|Lv (La (tkC y) (r:=(own_el tkC_len hy r).choose) (hl:=(own_el tkC_len hy r).choose_spec))<|Le (Eff.buildSlice (rfl) [_,_] Tryz.underlying181 Tryz.sizeOf268 (by exact Tryz.zeroValue268) rfl rfl rfl rfl (by rfl)) fun b46 _=>Le (Eff.appendAny (tkC y) (sz:=2) (bytes:=16) (z:= .agg #[.int .i64 0,.int .i64 0]) (xs:=(insU T (line,c) k.1 true).flatMap tkC) (m0:=(insU T (line,c) k.1 true).length) (o:=k.2.2) (m:=1) (pk:=[ownG 268 ((insU T (line,c) k.1 true).flatMap tkC) (k.2.2)]) rfl rfl Tryz.underlying181 kr_ rfl om_ pk_ (by simp) hk3 (by rfl) (fun hm0=>⟨b46,0,rfl,fun w hw=>V.range_of_block (o:=0) (cs:=tkC y) (r:=[]) (hw.own _ (show InS (b46,.cells (tkC y).toArray 268 (0,0)) _ from in_).mem) rfl⟩) (by rfl) om_ om_) fun o47 ho47=>?_
   rw[← ea,← el] at ho47⊢
   refine pA_ 9 ?_
   exact roundA ((k.1+1,true,o47)) ⟨by simp only;omega,hst.2,ho47⟩ (by simp only;omega)
 ·have hk9:T.length≤k.1:=by omega
  have hle:=insU_le T (line,c) k.1 k.2.1
  refine pA_ 12 ?_
  refine Cd_ rfl (fun h49=>?_) fun h49=>?_
  ·have h49:k.2.1=false:=by simpa using h49
   rw[h49] at hk2 hk3 hle⊢
   refine Rg<|Lv Mv<|Lv Mv<|Lv Mv<|Lv (Bd (tkC (line,c)))<|Le (Eff.buildSlice (rfl) [_,_] Tryz.underlying181 Tryz.sizeOf268 (by exact Tryz.zeroValue268) rfl rfl rfl rfl (by rfl)) fun b54 _=>Le (Eff.appendAny (tkC (line,c)) (sz:=2) (bytes:=16) (z:= .agg #[.int .i64 0,.int .i64 0]) (xs:=(insU T (line,c) k.1 false).flatMap tkC) (m0:=(insU T (line,c) k.1 false).length) (o:=k.2.2) (m:=1) (pk:=[ownG 268 ((insU T (line,c) k.1 false).flatMap tkC) (k.2.2)]) rfl rfl Tryz.underlying181 kr_ rfl om_ pk_ (by simp) hk3 (by rfl) (fun hm0=>⟨b54,0,rfl,fun w hw=>V.range_of_block (o:=0) (cs:=tkC (line,c)) (r:=[]) (hw.own _ (show InS (b54,.cells (tkC (line,c)).toArray 268 (0,0)) _ from in_).mem) rfl⟩) (by rfl) om_ om_) fun o55 ho55=>Lv Av<|Nl<|Ps<|Rg<|Lv Mv<|Lv Mv<|Lv Nz<|Lv (Fa 1 181)<|LeN (StS (h1:=V.ownV_one _ _)) fun _ _=>Nl<|PQ.end0 rfl ?_
   have e55:(insU T (line,c) k.1 false).flatMap tkC++tkC (line,c)=(insT T (line,c)).flatMap tkC:=by rw[← insU_end0 hk9 hk2,List.flatMap_append];rfl
   have l55:(insU T (line,c) k.1 false).length+1=(insT T (line,c)).length:=by rw[← insU_end0 hk9 hk2];simp
   rw[e55,l55] at ho55⊢
   exact fi_ o55 ho55
  ·have h49:k.2.1=true:=by simpa using h49
   rw[h49] at hk2 hk3 hle⊢
   refine pA_ 7 ?_
   refine LeN (StS (h1:=V.ownV_one _ _)) fun _ _=>Nl<|PQ.end0 rfl ?_
   rw[insU_end1 hk9] at hk3⊢
   exact fi_ k.2.2 hk3
end
section
attribute [local irreducible] V.CW V.LW V.QW V.RW V.PQ V.Val V.Eff V.Qcall
open V (str byC ownV ownG ownS ownOk)
theorem places210:∀w,((Array.mapM (fun(f:Field)=>do pure (f.offset,← sizeOf f.type)) (Tryz.prog.fieldsOf 210):Sem (Array (Nat×Nat)))).run Tryz.prog w= .ok [(0,1),(1,1),(2,1),(3,1),(4,1),(5,1)].toArray w:=by
 intro w;kernel_rfl
theorem places215:∀w,((Array.mapM (fun(f:Field)=>do pure (f.offset,← sizeOf f.type)) (Tryz.prog.fieldsOf 215):Sem (Array (Nat×Nat)))).run Tryz.prog w= .ok [(0,1),(1,1)].toArray w:=by
 intro w;kernel_rfl
theorem places245:∀w,((Array.mapM (fun(f:Field)=>do pure (f.offset,← sizeOf f.type)) (Tryz.prog.fieldsOf 245):Sem (Array (Nat×Nat)))).run Tryz.prog w= .ok [(0,1),(1,1)].toArray w:=by
 intro w;kernel_rfl
instance:Und Tryz.prog 208 (dOf Tryz.underlying208):=⟨Tryz.underlying208⟩
instance:Siz Tryz.prog 208 (kOf Tryz.sizeOf208):=⟨Tryz.sizeOf208⟩
instance:AgF Tryz.prog 208:=⟨Tryz.isAgg208⟩
instance:Und Tryz.prog 210 (dOf Tryz.underlying210):=⟨Tryz.underlying210⟩
instance:Zer Tryz.prog 210 (zOf Tryz.zeroValue210):=⟨Tryz.zeroValue210⟩
instance:Und Tryz.prog 215 (dOf Tryz.underlying215):=⟨Tryz.underlying215⟩
instance:Zer Tryz.prog 215 (zOf Tryz.zeroValue215):=⟨Tryz.zeroValue215⟩
instance:Plc Tryz.prog 210 (fOf Tryz.underlying210) (lOf (P:=Tryz.prog) places210):=⟨places210,Tryz.underlying210⟩
instance:Plc Tryz.prog 215 (fOf Tryz.underlying215) (lOf (P:=Tryz.prog) places215):=⟨places215,Tryz.underlying215⟩
instance:Plc Tryz.prog 245 (fOf Tryz.underlying245) (lOf (P:=Tryz.prog) places245):=⟨places245,Tryz.underlying245⟩
instance:Cal Tryz.prog 84:=⟨Tryz.call84⟩
instance:Cal Tryz.prog 158:=⟨Tryz.call158⟩
instance:Cal Tryz.prog 159:=⟨Tryz.call159⟩
instance:Cal Tryz.prog 160:=⟨Tryz.call160⟩
theorem rmark_g (pb:Nat)(n:Nat)(T:List (Int×Int))(o:V.OwnO)(hT:T.length≤100000)(ho:ownOk 2 T.length (T.flatMap tkC) o)(line c:Int):Mo Tryz.prog 89 [.pointer (some ⟨pb,0,none⟩),.int .i64 line,.int .i64 c] (rpS pb n T o) (fun o':V.OwnO=>ownOk 2 (markT n T line c).1.length ((markT n T line c).1.flatMap tkC) o') (fun _=> .int .i64 (markT n T line c).2) (fun o'=>rpS pb n (markT n T line c).1 o'):=by
 intro w hs
 refine Ca_ Tryz.func89 rfl Tryz.ntmps89 hs<|pA_ 8 ?_
 refine Le (Cz_ (rslabOf_c line)) fun _ _=>pA_ 8 ?_
 refine Le (Cz_ (rhome_c line c)) fun _ _=>Lv Nt<|Lv Mv ?_
 refine LW.split (d:=16) rfl (fun h16=>?_) (fun h16=>?_)
 ·replace h16:=bT h16
  have h16:homeF line c=false:=by simpa using h16
  refine pA_ 18 ?_
  have e8:markT n T line c=(T,1):=by unfold markT;rw[if_pos (.inl h16)]
  rw[e8]
  exact fi_ o ho
 ·replace h16:=bF h16
  have h16:homeF line c=true:=by simpa using h16
  refine pA_ 4 ?_
  refine Lv Ld<|pA_ 4 ?_
  refine Cd_ rfl (fun h23=>?_) fun h23=>?_
  ·have h23:(n:Int)≤slabOfF line:=h23
   refine pA_ 8 ?_
   have e8:markT n T line c=(T,1):=by unfold markT;rw[if_pos (.inr h23)]
   rw[e8]
   exact fi_ o ho
  ·refine pA_ 6 ?_
   refine Le (Cm_ (rof_g pb n T o hT ho line)) fun c9 _=>pA_ 12 ?_
   refine LW.split (d:=31) rfl (fun h31=>?_) (fun h31=>?_)
   ·replace h31:=bT h31
    have h31:ofT T line=true:=h31
    refine pA_ 23 ?_
    have e8:markT n T line c=(T,7):=by unfold markT;rw[if_neg (by rintro(h|h);exact absurd h (by simp[h16]);omega),if_pos (.inl h31)]
    rw[e8]
    exact fi_ o ho
   ·replace h31:=bF h31
    have h31:ofT T line=false:=h31
    refine Lv Mv<|Lv Mv<|Le (Cm_ (rcls_g pb n T o hT ho (slabOfF line))) fun _ _=>Lv Cm<|Lv Mv ?_
    refine LW.split (d:=36) rfl (fun h36=>?_) (fun h36=>?_)
    ·replace h36:=bT h36
     have h36:0≤clsT T (slabOfF line):=h36
     refine Lv Mv<|Lv Mv<|Le (Cm_ (rcls_g pb n T o hT ho (slabOfF line))) fun _ _=>pA_ 6 ?_
     refine Cd_ rfl (fun h43=>?_) fun h43=>?_
     ·have h43:clsT T (slabOfF line)≠c:=h43
      refine pA_ 8 ?_
      have e8:markT n T line c=(T,7):=by unfold markT;rw[if_neg (by rintro(h|h);exact absurd h (by simp[h16]);omega),if_pos (.inr ⟨h36,h43⟩)]
      rw[e8]
      exact fi_ o ho
     ·refine pA_ 7 ?_
      refine Le (Cm_ (rput_g pb n T o hT ho line c)) fun o2 ho2=>pA_ 9 ?_
      have e8:markT n T line c=(insT T (line,c),0):=by unfold markT;rw[if_neg (by rintro(h|h);exact absurd h (by simp[h16]);omega),if_neg (by rintro(h|h);exact absurd h (by simp[h31]);omega)]
      rw[e8]
      exact fi_ o2 ho2
    ·replace h36:=bF h36
     refine pA_ 17 ?_
     refine Le (Cm_ (rput_g pb n T o hT ho line c)) fun o2 ho2=>pA_ 9 ?_
     have e8:markT n T line c=(insT T (line,c),0):=by unfold markT;rw[if_neg (by rintro(h|h);exact absurd h (by simp[h16]);omega),if_neg (by rintro(h|h);exact absurd h (by simp[h31]);omega)]
     rw[e8]
     exact fi_ o2 ho2
theorem rnewP_g (n:Nat)(h1:1≤n)(h2:n≤32):Mz Tryz.prog 155 [.int .i64 (n:Nat)] (fun pb:Nat=>True) (fun pb=> .tuple #[.pointer (some ⟨pb,0,none⟩),.int .i64 0]) (fun pb=>rpS pb n [] none):=by
 intro w
 refine Cb_ Tryz.func155 rfl Tryz.ntmps155<|pA_ 12 ?_
 refine LW.re 6 (.bool false) rfl (by congr 1;simp;omega)<|Lv Mv<|Lv Cm<|LW.re 8 (.bool false) rfl (by congr 1;simp;omega)<|pA_ 9 ?_
 refine Lv (Bd [_,_])<|Le XA fun b12 _=>pA_ 6 ?_
 intro w' hw;exact⟨b12,trivial,rfl,hw.perm (.refl _)⟩
abbrev rrS (rb rl n:Nat):Sg:=[[(rb,.cells [.slice (some ⟨rl,0,none⟩) n n,.int .u64 1].toArray 215 (0,0))],[(rl,.cells (List.replicate n (.int .u64 0)).toArray 22 (0,0))]]
def rkC (nb n:Nat)(e:Int):List Value:=[.int .u64 (e+1),.int .u64 e,.slice (some ⟨nb,0,none⟩) n n,.bool false,.slice none 0 0,.int .i64 0]
abbrev rkS (cb nb n:Nat)(e:Int):Sg:=[[(cb,.cells (rkC nb n e).toArray 210 (0,0))],[(nb,.cells (List.replicate n (.slice none 0 0)).toArray 24 (0,0))]]
theorem rnewR_g (n:Nat)(h1:1≤n)(h2:n≤4):Mz Tryz.prog 156 [.int .i64 (n:Nat)] (fun p:Nat×Nat=>True) (fun p=> .tuple #[.pointer (some ⟨p.1,0,none⟩),.int .i64 0]) (fun p=>rrS p.1 p.2 n):=by
 intro w
 refine Cb_ Tryz.func156 rfl Tryz.ntmps156<|pA_ 12 ?_
 refine LW.re 6 (.bool false) rfl (by congr 1;simp;omega)<|Lv Mv<|Lv Cm<|LW.re 8 (.bool false) rfl (by congr 1;simp;omega)<|pA_ 9 ?_
 refine Le (Eff.makeSlice (m:=n) (by_:=8) (zl:=[.int .u64 0]) rfl rfl Tryz.underlying213 kr_ Tryz.sizeOf22 (by exact Tryz.zeroValue22) kr_ rfl om_ om_ om_) fun b11 _=>?_
 rw[V.repL_one]
 refine Lv (Bd [_,_])<|Le XA fun b13 _=>pA_ 6 ?_
 exact fi_ (b13,b11) trivial
theorem rnewK_g (n:Nat)(h1:1≤n)(h2:n≤4)(e0:Int)(he:0≤e0∧e0≤1152921504606846976):Mz Tryz.prog 157 [.int .i64 (n:Nat),.int .u64 e0] (fun p:Nat×Nat=>True) (fun p=> .tuple #[.pointer (some ⟨p.1,0,none⟩),.int .i64 0]) (fun p=>rkS p.1 p.2 n e0):=by
 intro w
 refine Cb_ Tryz.func157 rfl Tryz.ntmps157<|pA_ 12 ?_
 refine LW.re 8 (.bool false) rfl (by congr 1;simp;omega)<|Lv Mv<|Lv Cm<|LW.re 10 (.bool false) rfl (by congr 1;simp;omega)<|pA_ 11 ?_
 refine LW.re 13 (.bool false) rfl (by congr 1;simp;omega)<|pA_ 11 ?_
 refine Le (Eff.makeSlice (m:=n) (by_:=24) (zl:=[.slice none 0 0]) rfl rfl Tryz.underlying208 kr_ Tryz.sizeOf24 (by exact Tryz.zeroValue24) kr_ rfl om_ om_ om_) fun b18 _=>?_
 rw[V.repL_one]
 refine Lv (Bd (rkC b18 n e0))<|Le XA fun b20 _=>pA_ 6 ?_
 exact fi_ (b20,b18) trivial
theorem rowed_g (cb nb n:Nat)(e0:Int)(hn:n≤100):Mo Tryz.prog 119 [.pointer (some ⟨cb,0,none⟩)] (rkS cb nb n e0) (fun o:V.OwnO=>ownOk 1 n ((List.replicate n (0:Int)).flatMap inI) o) (fun o=>ownV n o) (fun o=>ownG 3 ((List.replicate n (0:Int)).flatMap inI) o::rkS cb nb n e0):=by
 intro w hs
 refine Ca_ Tryz.func119 rfl Tryz.ntmps119 hs<|pA_ 17 ?_
 refine V.CW.perm (sg':=ownG 3 ((List.replicate 0 (0:Int)).flatMap inI) none::rkS cb nb n e0) ?_ (.refl _)
 refine loopA (γ:=Nat×V.OwnO) (fun k=>[(0,.pointer (some ⟨cb,0,none⟩)),(3,ownV k.1 k.2),(4,.int .i64 (k.1:Nat))]) (fun k=>ownG 3 ((List.replicate k.1 (0:Int)).flatMap inI) k.2::rkS cb nb n e0) (fun k=>k.1≤n∧ownOk 1 k.1 ((List.replicate k.1 (0:Int)).flatMap inI) k.2) (fun k=>n-k.1) ((0,none)) ⟨Nat.zero_le _,rfl,rfl⟩ fun k=>?_
 rintro⟨hk1,hk2⟩
 refine pA_ 7 ?_
 refine Lv (Ld (v:= .slice (some ⟨nb,0,none⟩) n n))<|pA_ 4 ?_
 refine Cd_ rfl (fun h11=>?_) fun h11=>?_
 ·have hk9:k.1<n:=by omega
  refine pA_ 9 ?_
  refine Lv (Ld (v:= .slice (some ⟨nb,0,none⟩) n n))<|Lv Mv<|Lv (Val.indexAddrN (i:=k.1) rfl rfl Tryz.underlying208 Tryz.sizeOf24 om_)<|LW.re 20 (.pointer (some ⟨nb,k.1,none⟩)) rfl (by simp) ?_
  refine LW.v rfl rfl (Ld (v:= .slice none 0 0) (hl:=by rw[List.getElem?_replicate,if_pos hk9])) ?_
  refine Lv Ln<|Le (Eff.buildSlice (rfl) [_] Tryz.underlying24 Tryz.sizeOf3 (by exact Tryz.zeroValue3) rfl rfl rfl rfl (by rfl)) fun b23 _=>Le (Eff.appendAny (inI 0) (sz:=1) (bytes:=8) (z:= .int .i64 0) (xs:=(List.replicate k.1 (0:Int)).flatMap inI) (m0:=k.1) (o:=k.2) (m:=1) (pk:=[ownG 3 ((List.replicate k.1 (0:Int)).flatMap inI) (k.2)]) rfl rfl Tryz.underlying24 kr_ rfl om_ pk_ (by simp) hk2 (by rfl) (fun hm0=>⟨b23,0,rfl,fun w hw=>V.range_of_block (o:=0) (cs:=inI 0) (r:=[]) (hw.own _ (show InS (b23,.cells (inI 0).toArray 3 (0,0)) _ from in_).mem) rfl⟩) (by rfl) om_ om_) fun o2 ho2=>?_
  have e2:(List.replicate k.1 (0:Int)).flatMap inI++inI 0=(List.replicate (k.1+1) (0:Int)).flatMap inI:=by rw[List.replicate_succ',List.flatMap_append];rfl
  rw[e2] at ho2⊢
  refine pA_ 9 ?_
  exact roundA ((k.1+1,o2)) ⟨by simp only;omega,ho2⟩ (by simp only;omega)
 ·have hk9:k.1=n:=by omega
  refine pA_ 13 ?_
  rw[hk9] at hk2⊢
  exact fi_ k.2 hk2
end
section
attribute [local irreducible] V.CW V.LW V.QW V.RW V.PQ V.Val V.Eff V.Qcall
open V (str byC ownV ownG ownS ownOk)
def insG {α:Type}(c:α→Bool)(x:α):List α→List α
 |[]=>[x]
 |y::r=>if c y=true then x::y::r else y::insG c x r
theorem insK_G (x:Lk):∀l:List Lk,insK l x=insG (fun y=>decide (x.key<y.key)) x l
 |[]=>rfl
 |y::r=>by rw[insK,insG,insK_G x r];simp
theorem behF_G (x:Lk):∀l:List Lk,behF l x=insG (fun y=>decide (x.ver<y.ver)) x l
 |[]=>rfl
 |y::r=>by rw[behF,insG,behF_G x r];simp
section
variable {α:Type}{c:α→Bool}{x y:α}
theorem insG_none:∀{T:List α},(∀t∈T,c t=false)→insG c x T=T++[x]
 |[],_=>rfl
 |y::r,h=>by
  rw[insG,if_neg (by rw[h y List.mem_cons_self];simp),insG_none fun t ht=>h t (List.mem_cons_of_mem _ ht)];rfl
theorem insG_app {B:List α}(hy:c y=true):∀{A:List α},(∀t∈A,c t=false)→insG c x (A++y::B)=A++x::y::B
 |[],_=>by rw[List.nil_append,insG,if_pos hy];rfl
 |z::r,h=>by
  rw[List.cons_append,insG,if_neg (by rw[h z List.mem_cons_self];simp),insG_app hy fun t ht=>h t (List.mem_cons_of_mem _ ht)];rfl
theorem insG_snoc:∀{A:List α},(∃t∈A,c t=true)→insG c x (A++[y])=insG c x A++[y]
 |[],h=>by obtain⟨t,ht,_⟩:=h;cases ht
 |z::r,h=>by
  rw[List.cons_append,insG,insG]
  by_cases hz:c z=true
  ·rw[if_pos hz,if_pos hz];rfl
  ·rw[if_neg hz,if_neg hz,insG_snoc (A:=r)]
   ·rfl
   ·obtain⟨t,ht,h2⟩:=h
    rcases List.mem_cons.1 ht with rfl|ht
    ·exact absurd h2 hz
    ·exact⟨t,ht,h2⟩
theorem insG_len (c:α→Bool)(x:α):∀T:List α,(insG c x T).length=T.length+1
 |[]=>rfl
 |y::r=>by
  rw[insG];split
  ·rfl
  ·rw[List.length_cons,insG_len c x r,List.length_cons]
def gU (c:α→Bool)(x:α)(T:List α)(i:Nat)(b:Bool):List α:=if b=true then insG c x (T.take i) else T.take i
def gJ (c:α→Bool)(T:List α)(i:Nat)(b:Bool):Prop:=if b=true then ∃t∈T.take i,c t=true else ∀t∈T.take i,c t=false
variable {T:List α}{i:Nat}
theorem gU_A (hy:T[i]? =some y)(hj:gJ c T i false)(h:c y=true):gU c x T (i+1) true=gU c x T i false++[x]++[y]∧gJ c T (i+1) true:=by
 unfold gU gJ at*
 have e:T.take (i+1)=T.take i++[y]:=by rw[List.take_add_one,hy];rfl
 simp only[if_true,Bool.false_eq_true,if_false] at*
 rw[e]
 exact⟨by rw[insG_app h hj];simp,y,by simp,h⟩
theorem gU_B (hy:T[i]? =some y)(hj:gJ c T i false)(h:c y=false):gU c x T (i+1) false=gU c x T i false++[y]∧gJ c T (i+1) false:=by
 unfold gU gJ at*
 have e:T.take (i+1)=T.take i++[y]:=by rw[List.take_add_one,hy];rfl
 simp only[Bool.false_eq_true,if_false] at*
 rw[e]
 refine⟨rfl,fun t ht=>?_⟩
 rcases List.mem_append.1 ht with ht|ht
 ·exact hj t ht
 ·rw[List.mem_singleton.1 ht];exact h
theorem gU_C (hy:T[i]? =some y)(hj:gJ c T i true):gU c x T (i+1) true=gU c x T i true++[y]∧gJ c T (i+1) true:=by
 unfold gU gJ at*
 have e:T.take (i+1)=T.take i++[y]:=by rw[List.take_add_one,hy];rfl
 simp only[if_true] at*
 rw[e]
 obtain⟨t,ht,h⟩:=hj
 exact⟨insG_snoc ⟨t,ht,h⟩,t,List.mem_append_left _ ht,h⟩
theorem gU_le (c:α→Bool)(x:α)(T:List α)(i:Nat)(b:Bool):(gU c x T i b).length≤T.length+1:=by
 unfold gU;split
 ·rw[insG_len,List.length_take];omega
 ·rw[List.length_take];omega
theorem gU_end1 (h:T.length≤i):gU c x T i true=insG c x T:=by unfold gU;rw[if_pos rfl,List.take_of_length_le h]
theorem gU_end0 (h:T.length≤i)(hj:gJ c T i false):gU c x T i false++[x]=insG c x T:=by
 unfold gU gJ at*
 simp only[Bool.false_eq_true,if_false] at*
 rw[List.take_of_length_le h] at*
 exact(insG_none hj).symm
end
theorem own_lk {l:List Lk}{y:V.OwnO}(hy:ownOk 5 l.length (l.flatMap lkC) y):∃(p:Option Addr) (c:Nat),ownV l.length y= .slice p l.length c∧∀{B:V.Base} {sg r:V.Sg} {w:World},Hp B sg w→Pick [ownG 165 (l.flatMap lkC) y] sg r→V.slAt w p 5 lkC l:=by
 obtain⟨p,c,h1,_,h2⟩:=own_slg (e:=165) lkC_len l y hy
 exact⟨p,c,h1,h2⟩
abbrev rtS (tb:Nat)(l:List Lk)(o:V.OwnO):Sg:=[[(tb,.cells [ownV l.length o].toArray 192 (0,0))],ownG 165 (l.flatMap lkC) o]
theorem rlink_c (f:Fnd):Rz Tryz.prog 91 [.agg (fdC f).toArray] (.agg (lkC (lkOf f)).toArray):=by
 intro w
 refine Cb_ Tryz.func91 rfl Tryz.ntmps91<|Sq<|Rg<|Le XA fun b1 _=>Le AA fun b2 _=>Nl<|Ps<|Sq<|Rg<|Lv (Fa 2 53)<|Lv (Fa 5 9)<|Lv Ld<|Lv (Fa 2 53)<|Lv (Fa 2 22)<|Lv Ld<|Lv (Fa 2 53)<|Lv (Fa 3 22)<|Lv Ld<|Lv (Fa 0 3)<|Lv Ld<|Lv (Fa 2 53)<|Lv (Fa 0 3)<|Lv Ld<|Lv (Bd (lkC (lkOf f)))<|LeN (StW (cs:=lkC (lkOf f))) fun _ _=>Nl<|Ps<|Rt<|PQ.retC (l:=lkC (lkOf f)) rfl rfl in_ Tryz.isAgg165 (by exact Tryz.sizeOf165) ?_
 exact fb_
theorem rbehind_c (l:List Lk)(p:Option Addr)(cp:Nat)(x:Lk)(hl:l.length≤100000)(w:World)(h:V.slAt w p 5 lkC l):Calls Tryz.prog 92 [.slice p l.length cp,.agg (lkC x).toArray].toArray w fun e w'=>∃o:V.OwnO,ownOk 5 (behF l x).length ((behF l x).flatMap lkC) o∧e= .returned (ownV (behF l x).length o)∧Hp ⟨w,[]⟩ ([ownG 165 ((behF l x).flatMap lkC) o]) w':=by
 rw[behF_G]
 refine Cb_ Tryz.func92 rfl Tryz.ntmps92<|Sq<|Rg<|Le XA fun b3 _=>pA_ 20 ?_
 refine V.CW.perm (sg':=ownG 165 ((gU (fun z:Lk=>decide (x.ver<z.ver)) x l 0 false).flatMap lkC) none::[[(b3,.cells (lkC x).toArray 165 (0,0))]]) ?_ (.refl _)
 refine loopA (γ:=Nat×Bool×V.OwnO) (fun k=>[(0,.slice p l.length cp),(3,.pointer (some ⟨b3,0,none⟩)),(5,ownV (gU (fun z:Lk=>decide (x.ver<z.ver)) x l k.1 k.2.1).length k.2.2),(6,.bool k.2.1),(7,.int .i64 (k.1:Nat))]) (fun k=>ownG 165 ((gU (fun z:Lk=>decide (x.ver<z.ver)) x l k.1 k.2.1).flatMap lkC) k.2.2::[[(b3,.cells (lkC x).toArray 165 (0,0))]]) (fun k=>k.1≤l.length∧gJ (fun z:Lk=>decide (x.ver<z.ver)) l k.1 k.2.1∧ownOk 5 (gU (fun z:Lk=>decide (x.ver<z.ver)) x l k.1 k.2.1).length ((gU (fun z:Lk=>decide (x.ver<z.ver)) x l k.1 k.2.1).flatMap lkC) k.2.2) (fun k=>l.length-k.1) ((0,false,none)) ⟨Nat.zero_le _,(by intro t ht;simp at ht),rfl,rfl⟩ fun k=>?_
 rintro⟨hk1,hk2,hk3⟩
 refine pA_ 9 ?_
 refine Cd_ rfl (fun h11=>?_) fun h11=>?_
 ·have hk9:k.1<l.length:=by omega
  have hle:=gU_le (fun z:Lk=>decide (x.ver<z.ver)) x l k.1 k.2.1
  obtain⟨bb1,o1,y,rfl,hb1,hy,hr1⟩:=V.slAt_at h rfl (k:=k.1) hk9
  refine pA_ 6 ?_
  refine Qt<|pA_ 3 ?_
  refine QW.split (d:=16) rfl (fun h16=>?_) (fun h16=>?_)
  ·replace h16:=bT h16
   have hs1:k.2.1=false:=by simpa using h16
   rw[hs1] at hk2 hk3 hle⊢
   refine Qv Mv<|Qv Mv<|Qv (Val.indexAddrN (i:=k.1) rfl rfl Tryz.underlying159 Tryz.sizeOf165 om_)<|Qv (Fa 2 22)<|Qv (Val.loadO rfl Tryz.isAgg22 hb1 (by simp[ids]) (hr1 k.1 y hy 2 _ rfl))<|Qv (Fa 2 22)<|Qv Ld<|pA_ 4 ?_
   refine Cd_ rfl (fun h25=>?_) fun h25=>?_
   ·have hs2:(fun z:Lk=>decide (x.ver<z.ver)) y=true:=decide_eq_true (by have h8:=h25;omega)
    have hst:=gU_A (x:=x) hy hk2 hs2
    have ea:((gU (fun z:Lk=>decide (x.ver<z.ver)) x l (k.1+1) true)).flatMap lkC=(((gU (fun z:Lk=>decide (x.ver<z.ver)) x l k.1 false)++[x])).flatMap lkC++lkC y:=by rw[hst.1];exact List.flatMap_append
    have el:((gU (fun z:Lk=>decide (x.ver<z.ver)) x l (k.1+1) true)).length=(((gU (fun z:Lk=>decide (x.ver<z.ver)) x l k.1 false)++[x])).length+1:=by rw[hst.1];simp
    have hle2:(((gU (fun z:Lk=>decide (x.ver<z.ver)) x l k.1 false)++[x])).length≤l.length+2:=by rw[List.length_append];simp only[List.length_singleton];omega
    refine Sq<|Rg<|Lv Mv<|Lv (Lw (l:=lkC x))<|Le (Eff.buildSlice (rfl) [_,_,_,_,_] Tryz.underlying159 Tryz.sizeOf165 (by exact Tryz.zeroValue165) rfl rfl rfl rfl (by rfl)) fun b28 _=>Le (Eff.appendAny (lkC x) (sz:=5) (bytes:=48) (z:= .agg #[.string ⟨#[]⟩,.int .u64 0,.int .u64 0,.int .i64 0,.int .i64 0]) (xs:=(gU (fun z:Lk=>decide (x.ver<z.ver)) x l k.1 false).flatMap lkC) (m0:=(gU (fun z:Lk=>decide (x.ver<z.ver)) x l k.1 false).length) (o:=k.2.2) (m:=1) (pk:=[ownG 165 ((gU (fun z:Lk=>decide (x.ver<z.ver)) x l k.1 false).flatMap lkC) (k.2.2)]) rfl rfl Tryz.underlying159 kr_ rfl om_ pk_ (by simp) hk3 (by rfl) (fun hm0=>⟨b28,0,rfl,fun w hw=>V.range_of_block (o:=0) (cs:=lkC x) (r:=[]) (hw.own _ (show InS (b28,.cells (lkC x).toArray 165 (0,0)) _ from in_).mem) rfl⟩) (by rfl) om_ om_) fun oX hoX=>?_
    rw[show(gU (fun z:Lk=>decide (x.ver<z.ver)) x l k.1 false).flatMap lkC++lkC x=((gU (fun z:Lk=>decide (x.ver<z.ver)) x l k.1 false)++[x]).flatMap lkC by rw[List.flatMap_append];rfl,show(gU (fun z:Lk=>decide (x.ver<z.ver)) x l k.1 false).length+1=((gU (fun z:Lk=>decide (x.ver<z.ver)) x l k.1 false)++[x]).length by simp] at hoX⊢
    refine Lv Av<|Nl<|Ps<|Rg<|Lv Av<|Nl<|Ps<|Rg<|Lv Mv<|Lv Mv<|Lv Mv<|Lv (Val.indexAddrN (i:=k.1) rfl rfl Tryz.underlying159 Tryz.sizeOf165 om_)<|Lv (Val.loadOA (cs:=lkC y) rfl Tryz.isAgg165 hb1 (by simp[ids]) (hr1 k.1 y hy) Tryz.sizeOf165)<|Le (Eff.buildSlice (rfl) [_,_,_,_,_] Tryz.underlying159 Tryz.sizeOf165 (by exact Tryz.zeroValue165) rfl rfl rfl rfl (by rfl)) fun b35 _=>Le (Eff.appendAny (lkC y) (sz:=5) (bytes:=48) (z:= .agg #[.string ⟨#[]⟩,.int .u64 0,.int .u64 0,.int .i64 0,.int .i64 0]) (xs:=((gU (fun z:Lk=>decide (x.ver<z.ver)) x l k.1 false)++[x]).flatMap lkC) (m0:=((gU (fun z:Lk=>decide (x.ver<z.ver)) x l k.1 false)++[x]).length) (o:=oX) (m:=1) (pk:=[ownG 165 (((gU (fun z:Lk=>decide (x.ver<z.ver)) x l k.1 false)++[x]).flatMap lkC) (oX)]) rfl rfl Tryz.underlying159 kr_ rfl om_ pk_ (by simp) hoX (by rfl) (fun hm0=>⟨b35,0,rfl,fun w hw=>V.range_of_block (o:=0) (cs:=lkC y) (r:=[]) (hw.own _ (show InS (b35,.cells (lkC y).toArray 165 (0,0)) _ from in_).mem) rfl⟩) (by rfl) om_ om_) fun oY hoY=>?_
    rw[← ea,← el] at hoY⊢
    refine pA_ 9 ?_
    exact roundA ((k.1+1,true,oY)) ⟨by simp only;omega,hst.2,hoY⟩ (by simp only;omega)
   ·have hs2:(fun z:Lk=>decide (x.ver<z.ver)) y=false:=decide_eq_false (by have h8:=h25;omega)
    have hst:=gU_B (x:=x) hy hk2 hs2
    have ea:((gU (fun z:Lk=>decide (x.ver<z.ver)) x l (k.1+1) false)).flatMap lkC=((gU (fun z:Lk=>decide (x.ver<z.ver)) x l k.1 false)).flatMap lkC++lkC y:=by rw[hst.1];exact List.flatMap_append
    have el:((gU (fun z:Lk=>decide (x.ver<z.ver)) x l (k.1+1) false)).length=((gU (fun z:Lk=>decide (x.ver<z.ver)) x l k.1 false)).length+1:=by rw[hst.1];simp
    refine Sk<|Ps<|Rg<|Lv Mv<|Lv Mv<|Lv Mv<|Lv (Val.indexAddrN (i:=k.1) rfl rfl Tryz.underlying159 Tryz.sizeOf165 om_)<|Lv (Val.loadOA (cs:=lkC y) rfl Tryz.isAgg165 hb1 (by simp[ids]) (hr1 k.1 y hy) Tryz.sizeOf165)<|Le (Eff.buildSlice (rfl) [_,_,_,_,_] Tryz.underlying159 Tryz.sizeOf165 (by exact Tryz.zeroValue165) rfl rfl rfl rfl (by rfl)) fun b35 _=>Le (Eff.appendAny (lkC y) (sz:=5) (bytes:=48) (z:= .agg #[.string ⟨#[]⟩,.int .u64 0,.int .u64 0,.int .i64 0,.int .i64 0]) (xs:=(gU (fun z:Lk=>decide (x.ver<z.ver)) x l k.1 false).flatMap lkC) (m0:=(gU (fun z:Lk=>decide (x.ver<z.ver)) x l k.1 false).length) (o:=k.2.2) (m:=1) (pk:=[ownG 165 ((gU (fun z:Lk=>decide (x.ver<z.ver)) x l k.1 false).flatMap lkC) (k.2.2)]) rfl rfl Tryz.underlying159 kr_ rfl om_ pk_ (by simp) hk3 (by rfl) (fun hm0=>⟨b35,0,rfl,fun w hw=>V.range_of_block (o:=0) (cs:=lkC y) (r:=[]) (hw.own _ (show InS (b35,.cells (lkC y).toArray 165 (0,0)) _ from in_).mem) rfl⟩) (by rfl) om_ om_) fun oY hoY=>?_
    rw[← ea,← el] at hoY⊢
    refine pA_ 9 ?_
    exact roundA ((k.1+1,false,oY)) ⟨by simp only;omega,hst.2,hoY⟩ (by simp only;omega)
  ·replace h16:=bF h16
   have hs1:k.2.1=true:=by simpa using h16
   rw[hs1] at hk2 hk3 hle⊢
   have hst:=gU_C (x:=x) hy hk2
   have ea:((gU (fun z:Lk=>decide (x.ver<z.ver)) x l (k.1+1) true)).flatMap lkC=((gU (fun z:Lk=>decide (x.ver<z.ver)) x l k.1 true)).flatMap lkC++lkC y:=by rw[hst.1];exact List.flatMap_append
   have el:((gU (fun z:Lk=>decide (x.ver<z.ver)) x l (k.1+1) true)).length=((gU (fun z:Lk=>decide (x.ver<z.ver)) x l k.1 true)).length+1:=by rw[hst.1];simp
   refine Qp<|Qp<|Qp<|Qp<|Qp<|Qp<|Qp<|Qp<|Qv Pf<|Ql<|Ps<|Cf<|Sk<|Ps<|Rg<|Lv Mv<|Lv Mv<|Lv Mv<|Lv (Val.indexAddrN (i:=k.1) rfl rfl Tryz.underlying159 Tryz.sizeOf165 om_)<|Lv (Val.loadOA (cs:=lkC y) rfl Tryz.isAgg165 hb1 (by simp[ids]) (hr1 k.1 y hy) Tryz.sizeOf165)<|Le (Eff.buildSlice (rfl) [_,_,_,_,_] Tryz.underlying159 Tryz.sizeOf165 (by exact Tryz.zeroValue165) rfl rfl rfl rfl (by rfl)) fun b35 _=>Le (Eff.appendAny (lkC y) (sz:=5) (bytes:=48) (z:= .agg #[.string ⟨#[]⟩,.int .u64 0,.int .u64 0,.int .i64 0,.int .i64 0]) (xs:=(gU (fun z:Lk=>decide (x.ver<z.ver)) x l k.1 true).flatMap lkC) (m0:=(gU (fun z:Lk=>decide (x.ver<z.ver)) x l k.1 true).length) (o:=k.2.2) (m:=1) (pk:=[ownG 165 ((gU (fun z:Lk=>decide (x.ver<z.ver)) x l k.1 true).flatMap lkC) (k.2.2)]) rfl rfl Tryz.underlying159 kr_ rfl om_ pk_ (by simp) hk3 (by rfl) (fun hm0=>⟨b35,0,rfl,fun w hw=>V.range_of_block (o:=0) (cs:=lkC y) (r:=[]) (hw.own _ (show InS (b35,.cells (lkC y).toArray 165 (0,0)) _ from in_).mem) rfl⟩) (by rfl) om_ om_) fun oY hoY=>?_
   rw[← ea,← el] at hoY⊢
   refine pA_ 9 ?_
   exact roundA ((k.1+1,true,oY)) ⟨by simp only;omega,hst.2,hoY⟩ (by simp only;omega)
 ·have hk9:l.length≤k.1:=by omega
  have hle:=gU_le (fun z:Lk=>decide (x.ver<z.ver)) x l k.1 k.2.1
  refine pA_ 12 ?_
  refine Cd_ rfl (fun h38=>?_) fun h38=>?_
  ·have hs1:k.2.1=false:=by simpa using h38
   rw[hs1] at hk2 hk3 hle⊢
   refine Rg<|Lv Mv<|Lv (Lw (l:=lkC x))<|Le (Eff.buildSlice (rfl) [_,_,_,_,_] Tryz.underlying159 Tryz.sizeOf165 (by exact Tryz.zeroValue165) rfl rfl rfl rfl (by rfl)) fun b41 _=>Le (Eff.appendAny (lkC x) (sz:=5) (bytes:=48) (z:= .agg #[.string ⟨#[]⟩,.int .u64 0,.int .u64 0,.int .i64 0,.int .i64 0]) (xs:=(gU (fun z:Lk=>decide (x.ver<z.ver)) x l k.1 false).flatMap lkC) (m0:=(gU (fun z:Lk=>decide (x.ver<z.ver)) x l k.1 false).length) (o:=k.2.2) (m:=1) (pk:=[ownG 165 ((gU (fun z:Lk=>decide (x.ver<z.ver)) x l k.1 false).flatMap lkC) (k.2.2)]) rfl rfl Tryz.underlying159 kr_ rfl om_ pk_ (by simp) hk3 (by rfl) (fun hm0=>⟨b41,0,rfl,fun w hw=>V.range_of_block (o:=0) (cs:=lkC x) (r:=[]) (hw.own _ (show InS (b41,.cells (lkC x).toArray 165 (0,0)) _ from in_).mem) rfl⟩) (by rfl) om_ om_) fun oZ hoZ=>Lv Av<|Nl<|Ps<|Sq<|Rg<|Lv Mv<|Lv Av<|Nl<|Ps<|Rt<|Rt1 ?_
   have e55:(gU (fun z:Lk=>decide (x.ver<z.ver)) x l k.1 false).flatMap lkC++lkC x=(insG (fun z:Lk=>decide (x.ver<z.ver)) x l).flatMap lkC:=by rw[← gU_end0 hk9 hk2,List.flatMap_append];rfl
   have l55:(gU (fun z:Lk=>decide (x.ver<z.ver)) x l k.1 false).length+1=(insG (fun z:Lk=>decide (x.ver<z.ver)) x l).length:=by rw[← gU_end0 hk9 hk2];simp
   rw[e55,l55] at hoZ⊢
   exact fi_ oZ hoZ
  ·have hs1:k.2.1=true:=by simpa using h38
   rw[hs1] at hk2 hk3 hle⊢
   refine pA_ 10 ?_
   rw[gU_end1 hk9] at hk3⊢
   exact fi_ k.2.2 hk3
end
section
attribute [local irreducible] V.CW V.LW V.QW V.RW V.PQ V.Val V.Eff V.Qcall
open V (str byC ownV ownG ownS ownOk)
instance:Und Tryz.prog 192 (dOf Tryz.underlying192):=⟨Tryz.underlying192⟩
instance:Zer Tryz.prog 192 (zOf Tryz.zeroValue192):=⟨Tryz.zeroValue192⟩
instance:Cal Tryz.prog 161:=⟨Tryz.call161⟩
instance:Cal Tryz.prog 162:=⟨Tryz.call162⟩
theorem rget_g (tb:Nat)(l:List Lk)(o:V.OwnO)(hl:l.length≤100000)(ho:ownOk 5 l.length (l.flatMap lkC) o)(key:List UInt8):Mo Tryz.prog 161 [.pointer (some ⟨tb,0,none⟩),str key] (rtS tb l o) (fun z:Lk=>True) (fun z=> .tuple #[.agg (lkC z).toArray,.bool (l.any fun y=>decide (y.key=key))]) (fun _=>rtS tb l o):=by
 intro w hs
 refine Ca_ Tryz.func161 rfl Tryz.ntmps161 hs<|Sq<|Rg<|Le AA fun b4 _=>pA_ 10 ?_
 refine loopA (γ:=Nat) (fun k=>[(0,.pointer (some ⟨tb,0,none⟩)),(1,str key),(4,.pointer (some ⟨b4,0,none⟩)),(6,.int .i64 (k:Nat))]) (fun _=>[(b4,.cells (lkC lk0).toArray 165 (0,0))]::rtS tb l o) (fun k=>k≤l.length∧(l.take k).find? (fun z:Lk=>decide (z.key=key))=none) (fun k=>l.length-k) (0) ⟨Nat.zero_le _,rfl⟩ fun k=>?_
 rintro⟨hk1,hk2⟩
 refine pA_ 7 ?_
 refine Lv (Ld (v:=ownV l.length o))<|Lv (Val.lenOwn rfl Tryz.underlying159 ho)<|pA_ 3 ?_
 refine Cd_ rfl (fun h13=>?_) fun h13=>?_
 ·have hk9:k<l.length:=by omega
  obtain⟨g,r,cp,rfl⟩:=own_some ho om_
  obtain⟨y,hy⟩:∃y,l[k]? =some y:=⟨l[k]'om_,by simp⟩
  refine pA_ 9 ?_
  refine Lv (Ld (v:=ownV l.length (some (g,r,cp))))<|Lv Mv<|Lv (Val.indexAddrN (i:=k) rfl rfl Tryz.underlying159 Tryz.sizeOf165 om_)<|Lv (Fa 0 9)<|LW.re 22 (.pointer (some ⟨g,k*5+0,none⟩)) rfl (by simp)<|Lv (Ld (v:=str y.key) (hl:=own_cell lkC_len (j:=0) hy rfl r))<|pA_ 4 ?_
  refine Cd_ rfl (fun h25=>?_) fun h25=>?_
  ·have h25:y.key=key:=h25
   refine Sq<|Rg<|Lv Mv<|Lv Nz<|Lv (Fa 0 159)<|Lv (Ld (v:=ownV l.length (some (g,r,cp))))<|Lv Mv<|Lv (Val.indexAddrN (i:=k) rfl rfl Tryz.underlying159 Tryz.sizeOf165 om_)<|LW.re 31 (.pointer (some ⟨g,k*5,none⟩)) rfl (by simp)<|Lv (La (lkC y) (r:=(own_el lkC_len hy r).choose) (hl:=(own_el lkC_len hy r).choose_spec))<|LeN (StW (cs:=lkC y)) fun _ _=>Lv Av<|Nl<|Ps<|Rt<|Br<|Tr<|Tr<|Br<|Tr<|PQ.retCT rfl rfl rfl in_ Tryz.isAgg165 (by exact Tryz.sizeOf165) ?_
   have e8:l.any (fun y=>decide (y.key=key))=true:=List.any_eq_true.2 ⟨y,List.mem_of_getElem? hy,decide_eq_true h25⟩
   rw[e8]
   exact fi_ y trivial
  ·have h25:¬y.key=key:=h25
   have hk3:=find_step (p:=fun z:Lk=>decide (z.key=key)) hy (decide_eq_false h25) hk2
   refine pA_ 8 ?_
   exact roundA (k+1) ⟨by omega,hk3⟩ om_
 ·have hk9:l.length≤k:=by omega
  refine Xt<|Te<|Te<|Bh<|Ps<|Sq<|Rg<|Lv (Bd (lkC lk0))<|LeN (StW (cs:=lkC lk0)) fun _ _=>Lv Av<|Nl<|Ps<|Rt<|PQ.retCT rfl rfl rfl in_ Tryz.isAgg165 (by exact Tryz.sizeOf165) ?_
  have e8:l.any (fun y=>decide (y.key=key))=false:=by
   rw[List.take_of_length_le hk9] at hk2
   exact List.any_eq_false.2 fun t ht=>by have h7:=List.find?_eq_none.1 hk2 t ht;simpa using h7
  rw[e8]
  exact fi_ lk0 trivial
theorem rwithout_c (l:List Lk)(p:Option Addr)(cp:Nat)(key:List UInt8)(hl:l.length≤100000)(w:World)(h:V.slAt w p 5 lkC l):Calls Tryz.prog 162 [.slice p l.length cp,str key].toArray w fun e w'=>∃o:V.OwnO,ownOk 5 (l.filter fun y=> !decide (y.key=key)).length ((l.filter fun y=> !decide (y.key=key)).flatMap lkC) o∧e= .returned (ownV (l.filter fun y=> !decide (y.key=key)).length o)∧Hp ⟨w,[]⟩ ([ownG 165 ((l.filter fun y=> !decide (y.key=key)).flatMap lkC) o]) w':=by
 refine Cb_ Tryz.func162 rfl Tryz.ntmps162<|pA_ 17 ?_
 refine V.CW.perm (sg':=[ownG 165 (((l.take 0).filter fun y=> !decide (y.key=key)).flatMap lkC) none]) ?_ (.refl _)
 refine loopA (γ:=Nat×V.OwnO) (fun k=>[(0,.slice p l.length cp),(1,str key),(5,ownV ((l.take k.1).filter fun y=> !decide (y.key=key)).length k.2),(6,.int .i64 (k.1:Nat))]) (fun k=>[ownG 165 (((l.take k.1).filter fun y=> !decide (y.key=key)).flatMap lkC) k.2]) (fun k=>k.1≤l.length∧ownOk 5 ((l.take k.1).filter fun y=> !decide (y.key=key)).length (((l.take k.1).filter fun y=> !decide (y.key=key)).flatMap lkC) k.2) (fun k=>l.length-k.1) ((0,none)) ⟨Nat.zero_le _,rfl,rfl⟩ fun k=>?_
 rintro⟨hk1,hk2⟩
 refine pA_ 9 ?_
 refine Cd_ rfl (fun h10=>?_) fun h10=>?_
 ·have hk9:k.1<l.length:=by omega
  obtain⟨bb1,o1,y,rfl,hb1,hy,hr1⟩:=V.slAt_at h rfl (k:=k.1) hk9
  have hst:l.take (k.1+1)=l.take k.1++[y]:=by rw[List.take_add_one,hy];rfl
  have hle:((l.take k.1).filter fun y=> !decide (y.key=key)).length≤k.1:=Nat.le_trans (List.length_filter_le _ _) (by rw[List.length_take];omega)
  refine pA_ 8 ?_
  refine Lv (Val.indexAddrN (i:=k.1) rfl rfl Tryz.underlying159 Tryz.sizeOf165 om_)<|Lv (Fa 0 9)<|Lv (Val.loadO rfl Tryz.isAgg9 hb1 (by simp[ids]) (hr1 k.1 y hy 0 _ rfl))<|pA_ 4 ?_
  refine Cd_ rfl (fun h19=>?_) fun h19=>?_
  ·have h19:¬y.key=key:=by simpa using h19
   have e9:((l.take (k.1+1)).filter fun y=> !decide (y.key=key))=((l.take k.1).filter fun y=> !decide (y.key=key))++[y]:=by rw[hst,List.filter_append];simp[h19]
   have ea:((l.take (k.1+1)).filter fun y=> !decide (y.key=key)).flatMap lkC=((l.take k.1).filter fun y=> !decide (y.key=key)).flatMap lkC++lkC y:=by rw[e9];exact List.flatMap_append
   have el:((l.take (k.1+1)).filter fun y=> !decide (y.key=key)).length=((l.take k.1).filter fun y=> !decide (y.key=key)).length+1:=by rw[e9];simp
   refine Rg<|Lv Mv<|Lv Mv<|Lv Mv<|Lv (Val.indexAddrN (i:=k.1) rfl rfl Tryz.underlying159 Tryz.sizeOf165 om_)<|Lv (Val.loadOA (cs:=lkC y) rfl Tryz.isAgg165 hb1 (by simp[ids]) (hr1 k.1 y hy) Tryz.sizeOf165)<|Le (Eff.buildSlice (rfl) [_,_,_,_,_] Tryz.underlying159 Tryz.sizeOf165 (by exact Tryz.zeroValue165) rfl rfl rfl rfl (by rfl)) fun b25 _=>Le (Eff.appendAny (lkC y) (sz:=5) (bytes:=48) (z:= .agg #[.string ⟨#[]⟩,.int .u64 0,.int .u64 0,.int .i64 0,.int .i64 0]) (xs:=((l.take k.1).filter fun y=> !decide (y.key=key)).flatMap lkC) (m0:=((l.take k.1).filter fun y=> !decide (y.key=key)).length) (o:=k.2) (m:=1) (pk:=[ownG 165 (((l.take k.1).filter fun y=> !decide (y.key=key)).flatMap lkC) (k.2)]) rfl rfl Tryz.underlying159 kr_ rfl om_ pk_ (by simp) hk2 (by rfl) (fun hm0=>⟨b25,0,rfl,fun w hw=>V.range_of_block (o:=0) (cs:=lkC y) (r:=[]) (hw.own _ (show InS (b25,.cells (lkC y).toArray 165 (0,0)) _ from in_).mem) rfl⟩) (by rfl) om_ om_) fun o2 ho2=>?_
   rw[← ea,← el] at ho2⊢
   refine pA_ 9 ?_
   exact roundA ((k.1+1,o2)) ⟨by simp only;omega,ho2⟩ (by simp only;omega)
  ·have h19:y.key=key:=by simpa using h19
   have e9:((l.take (k.1+1)).filter fun y=> !decide (y.key=key))=((l.take k.1).filter fun y=> !decide (y.key=key)):=by rw[hst,List.filter_append];simp[h19]
   refine pA_ 8 ?_
   rw[← e9]
   exact roundA ((k.1+1,k.2)) ⟨by simp only;omega,by simp only;rw[e9];exact hk2⟩ (by simp only;omega)
 ·have hk9:l.length≤k.1:=by omega
  refine pA_ 13 ?_
  rw[List.take_of_length_le hk9] at hk2⊢
  exact fi_ k.2 hk2
theorem rset_g (tb:Nat)(l:List Lk)(o:V.OwnO)(hl:l.length≤100000)(ho:ownOk 5 l.length (l.flatMap lkC) o)(x:Lk):Mo Tryz.prog 90 [.pointer (some ⟨tb,0,none⟩),.agg (lkC x).toArray] (rtS tb l o) (fun o':V.OwnO=>ownOk 5 (setR l x).length ((setR l x).flatMap lkC) o') (fun _=> .bool (l.any fun y=>decide (y.key=x.key))) (fun o'=>rtS tb (setR l x) o'):=by
 intro w hs
 obtain⟨pl,cl,hvl,hsl⟩:=own_lk ho
 have hl2:(l.filter fun y=> !decide (y.key=x.key)).length≤l.length:=List.length_filter_le _ _
 have hset:setR l x=insG (fun z:Lk=>decide (x.key<z.key)) x (l.filter fun y=> !decide (y.key=x.key)):=insK_G x _
 rw[hset]
 refine Ca_ Tryz.func90 rfl Tryz.ntmps90 hs<|Sq<|Rg<|Le XA fun b3 _=>pA_ 7 ?_
 refine Lv Ld<|Le (Cm_ (rget_g tb l o hl ho x.key)) fun z _=>pA_ 3 ?_
 refine Le AA fun b5 _=>LeN (StW (cs:=lkC z)) fun _ _=>pA_ 14 ?_
 refine Dr ([(b3,.cells (lkC x).toArray 165 (0,0))]::rtS tb l o)<|pR_ [0,1,2] ?_
 refine Rv 3 rfl (Ld (v:=ownV l.length o))<|RW.re 21 (.slice pl l.length cl) rfl hvl<|Rv 4 rfl (Fa 0 9)<|Rv 5 rfl Ld<|Re 6 rfl (CM [] fun w hw hs0=>rwithout_c l pl cl x.key hl w (hsl hw pk_)) fun o24 ho24=>Rv 7 rfl Av<|pA_ 9 ?_
 refine V.CW.addOwn 165<|loopA (γ:=Nat×Bool×V.OwnO) (fun k=>[(0,.pointer (some ⟨tb,0,none⟩)),(3,.pointer (some ⟨b3,0,none⟩)),(6,.bool (l.any fun y=>decide (y.key=x.key))),(9,ownV (l.filter fun y=> !decide (y.key=x.key)).length o24),(7,ownV (gU (fun z:Lk=>decide (x.key<z.key)) x (l.filter fun y=> !decide (y.key=x.key)) k.1 k.2.1).length k.2.2),(8,.bool k.2.1),(10,.int .i64 (k.1:Nat))]) (fun k=>ownG 165 ((gU (fun z:Lk=>decide (x.key<z.key)) x (l.filter fun y=> !decide (y.key=x.key)) k.1 k.2.1).flatMap lkC) k.2.2::[(b3,.cells (lkC x).toArray 165 (0,0))]::ownG 165 ((l.filter fun y=> !decide (y.key=x.key)).flatMap lkC) o24::rtS tb l o) (fun k=>k.1≤(l.filter fun y=> !decide (y.key=x.key)).length∧gJ (fun z:Lk=>decide (x.key<z.key)) (l.filter fun y=> !decide (y.key=x.key)) k.1 k.2.1∧ownOk 5 (gU (fun z:Lk=>decide (x.key<z.key)) x (l.filter fun y=> !decide (y.key=x.key)) k.1 k.2.1).length ((gU (fun z:Lk=>decide (x.key<z.key)) x (l.filter fun y=> !decide (y.key=x.key)) k.1 k.2.1).flatMap lkC) k.2.2) (fun k=>(l.filter fun y=> !decide (y.key=x.key)).length-k.1) ((0,false,none)) ⟨Nat.zero_le _,(by intro t ht;simp at ht),rfl,rfl⟩ ?_
 intro k
 rintro⟨hk1,hk2,hk3⟩
 refine pA_ 5 ?_
 refine Lv (Val.lenOwn rfl Tryz.underlying159 ho24)<|pA_ 3 ?_
 refine Cd_ rfl (fun h28=>?_) fun h28=>?_
 ·have hk9:k.1<(l.filter fun y=> !decide (y.key=x.key)).length:=by omega
  have hle:=gU_le (fun z:Lk=>decide (x.key<z.key)) x (l.filter fun y=> !decide (y.key=x.key)) k.1 k.2.1
  obtain⟨g,r,cp,rfl⟩:=own_some ho24 om_
  obtain⟨y,hy⟩:∃y,(l.filter fun y=> !decide (y.key=x.key))[k.1]? =some y:=⟨(l.filter fun y=> !decide (y.key=x.key))[k.1]'om_,by simp⟩
  refine pA_ 6 ?_
  refine Qt<|pA_ 3 ?_
  refine QW.split (d:=33) rfl (fun h33=>?_) (fun h33=>?_)
  ·replace h33:=bT h33
   have hs1:k.2.1=false:=by simpa using h33
   rw[hs1] at hk2 hk3 hle⊢
   refine Qv Mv<|Qv Mv<|Qv (Val.indexAddrN (i:=k.1) rfl rfl Tryz.underlying159 Tryz.sizeOf165 om_)<|Qv (Fa 0 9)<|QW.re 37 (.pointer (some ⟨g,k.1*5+0,none⟩)) rfl (by simp)<|Qv (Ld (v:=str y.key) (hl:=own_cell lkC_len (j:=0) hy rfl r))<|Qv (Fa 0 9)<|Qv Ld<|Qv (Val.gtStr rfl rfl)<|pA_ 3 ?_
   refine Cd_ rfl (fun h42=>?_) fun h42=>?_
   ·have hs2:(fun z:Lk=>decide (x.key<z.key)) y=true:=decide_eq_true (by exact h42)
    have hst:=gU_A (x:=x) hy hk2 hs2
    have ea:((gU (fun z:Lk=>decide (x.key<z.key)) x (l.filter fun y=> !decide (y.key=x.key)) (k.1+1) true)).flatMap lkC=(((gU (fun z:Lk=>decide (x.key<z.key)) x (l.filter fun y=> !decide (y.key=x.key)) k.1 false)++[x])).flatMap lkC++lkC y:=by rw[hst.1];exact List.flatMap_append
    have el:((gU (fun z:Lk=>decide (x.key<z.key)) x (l.filter fun y=> !decide (y.key=x.key)) (k.1+1) true)).length=(((gU (fun z:Lk=>decide (x.key<z.key)) x (l.filter fun y=> !decide (y.key=x.key)) k.1 false)++[x])).length+1:=by rw[hst.1];simp
    have hle2:(((gU (fun z:Lk=>decide (x.key<z.key)) x (l.filter fun y=> !decide (y.key=x.key)) k.1 false)++[x])).length≤(l.filter fun y=> !decide (y.key=x.key)).length+2:=by rw[List.length_append];simp only[List.length_singleton];omega
    refine Sq<|Rg<|Lv Mv<|Lv (Lw (l:=lkC x))<|Le (Eff.buildSlice (rfl) [_,_,_,_,_] Tryz.underlying159 Tryz.sizeOf165 (by exact Tryz.zeroValue165) rfl rfl rfl rfl (by rfl)) fun b45 _=>Le (Eff.appendAny (lkC x) (sz:=5) (bytes:=48) (z:= .agg #[.string ⟨#[]⟩,.int .u64 0,.int .u64 0,.int .i64 0,.int .i64 0]) (xs:=(gU (fun z:Lk=>decide (x.key<z.key)) x (l.filter fun y=> !decide (y.key=x.key)) k.1 false).flatMap lkC) (m0:=(gU (fun z:Lk=>decide (x.key<z.key)) x (l.filter fun y=> !decide (y.key=x.key)) k.1 false).length) (o:=k.2.2) (m:=1) (pk:=[ownG 165 ((gU (fun z:Lk=>decide (x.key<z.key)) x (l.filter fun y=> !decide (y.key=x.key)) k.1 false).flatMap lkC) (k.2.2)]) rfl rfl Tryz.underlying159 kr_ rfl om_ pk_ (by simp) hk3 (by rfl) (fun hm0=>⟨b45,0,rfl,fun w hw=>V.range_of_block (o:=0) (cs:=lkC x) (r:=[]) (hw.own _ (show InS (b45,.cells (lkC x).toArray 165 (0,0)) _ from in_).mem) rfl⟩) (by rfl) om_ om_) fun oX hoX=>?_
    rw[show(gU (fun z:Lk=>decide (x.key<z.key)) x (l.filter fun y=> !decide (y.key=x.key)) k.1 false).flatMap lkC++lkC x=((gU (fun z:Lk=>decide (x.key<z.key)) x (l.filter fun y=> !decide (y.key=x.key)) k.1 false)++[x]).flatMap lkC by rw[List.flatMap_append];rfl,show(gU (fun z:Lk=>decide (x.key<z.key)) x (l.filter fun y=> !decide (y.key=x.key)) k.1 false).length+1=((gU (fun z:Lk=>decide (x.key<z.key)) x (l.filter fun y=> !decide (y.key=x.key)) k.1 false)++[x]).length by simp] at hoX⊢
    refine Lv Av<|Nl<|Ps<|Rg<|Lv Av<|Nl<|Ps<|Rg<|Lv Mv<|Lv Mv<|Lv Mv<|Lv (Val.indexAddrN (i:=k.1) rfl rfl Tryz.underlying159 Tryz.sizeOf165 om_)<|LW.re 50 (.pointer (some ⟨g,k.1*5,none⟩)) rfl (by simp)<|Lv (La (lkC y) (r:=(own_el lkC_len hy r).choose) (hl:=(own_el lkC_len hy r).choose_spec))<|Le (Eff.buildSlice (rfl) [_,_,_,_,_] Tryz.underlying159 Tryz.sizeOf165 (by exact Tryz.zeroValue165) rfl rfl rfl rfl (by rfl)) fun b52 _=>Le (Eff.appendAny (lkC y) (sz:=5) (bytes:=48) (z:= .agg #[.string ⟨#[]⟩,.int .u64 0,.int .u64 0,.int .i64 0,.int .i64 0]) (xs:=((gU (fun z:Lk=>decide (x.key<z.key)) x (l.filter fun y=> !decide (y.key=x.key)) k.1 false)++[x]).flatMap lkC) (m0:=((gU (fun z:Lk=>decide (x.key<z.key)) x (l.filter fun y=> !decide (y.key=x.key)) k.1 false)++[x]).length) (o:=oX) (m:=1) (pk:=[ownG 165 (((gU (fun z:Lk=>decide (x.key<z.key)) x (l.filter fun y=> !decide (y.key=x.key)) k.1 false)++[x]).flatMap lkC) (oX)]) rfl rfl Tryz.underlying159 kr_ rfl om_ pk_ (by simp) hoX (by rfl) (fun hm0=>⟨b52,0,rfl,fun w hw=>V.range_of_block (o:=0) (cs:=lkC y) (r:=[]) (hw.own _ (show InS (b52,.cells (lkC y).toArray 165 (0,0)) _ from in_).mem) rfl⟩) (by rfl) om_ om_) fun oY hoY=>?_
    rw[← ea,← el] at hoY⊢
    refine pA_ 9 ?_
    exact roundA ((k.1+1,true,oY)) ⟨by simp only;omega,hst.2,hoY⟩ (by simp only;omega)
   ·have hs2:(fun z:Lk=>decide (x.key<z.key)) y=false:=decide_eq_false (by simpa using h42)
    have hst:=gU_B (x:=x) hy hk2 hs2
    have ea:((gU (fun z:Lk=>decide (x.key<z.key)) x (l.filter fun y=> !decide (y.key=x.key)) (k.1+1) false)).flatMap lkC=((gU (fun z:Lk=>decide (x.key<z.key)) x (l.filter fun y=> !decide (y.key=x.key)) k.1 false)).flatMap lkC++lkC y:=by rw[hst.1];exact List.flatMap_append
    have el:((gU (fun z:Lk=>decide (x.key<z.key)) x (l.filter fun y=> !decide (y.key=x.key)) (k.1+1) false)).length=((gU (fun z:Lk=>decide (x.key<z.key)) x (l.filter fun y=> !decide (y.key=x.key)) k.1 false)).length+1:=by rw[hst.1];simp
    refine Sk<|Ps<|Rg<|Lv Mv<|Lv Mv<|Lv Mv<|Lv (Val.indexAddrN (i:=k.1) rfl rfl Tryz.underlying159 Tryz.sizeOf165 om_)<|LW.re 50 (.pointer (some ⟨g,k.1*5,none⟩)) rfl (by simp)<|Lv (La (lkC y) (r:=(own_el lkC_len hy r).choose) (hl:=(own_el lkC_len hy r).choose_spec))<|Le (Eff.buildSlice (rfl) [_,_,_,_,_] Tryz.underlying159 Tryz.sizeOf165 (by exact Tryz.zeroValue165) rfl rfl rfl rfl (by rfl)) fun b52 _=>Le (Eff.appendAny (lkC y) (sz:=5) (bytes:=48) (z:= .agg #[.string ⟨#[]⟩,.int .u64 0,.int .u64 0,.int .i64 0,.int .i64 0]) (xs:=(gU (fun z:Lk=>decide (x.key<z.key)) x (l.filter fun y=> !decide (y.key=x.key)) k.1 false).flatMap lkC) (m0:=(gU (fun z:Lk=>decide (x.key<z.key)) x (l.filter fun y=> !decide (y.key=x.key)) k.1 false).length) (o:=k.2.2) (m:=1) (pk:=[ownG 165 ((gU (fun z:Lk=>decide (x.key<z.key)) x (l.filter fun y=> !decide (y.key=x.key)) k.1 false).flatMap lkC) (k.2.2)]) rfl rfl Tryz.underlying159 kr_ rfl om_ pk_ (by simp) hk3 (by rfl) (fun hm0=>⟨b52,0,rfl,fun w hw=>V.range_of_block (o:=0) (cs:=lkC y) (r:=[]) (hw.own _ (show InS (b52,.cells (lkC y).toArray 165 (0,0)) _ from in_).mem) rfl⟩) (by rfl) om_ om_) fun oY hoY=>?_
    rw[← ea,← el] at hoY⊢
    refine pA_ 9 ?_
    exact roundA ((k.1+1,false,oY)) ⟨by simp only;omega,hst.2,hoY⟩ (by simp only;omega)
  ·replace h33:=bF h33
   have hs1:k.2.1=true:=by simpa using h33
   rw[hs1] at hk2 hk3 hle⊢
   have hst:=gU_C (x:=x) hy hk2
   have ea:((gU (fun z:Lk=>decide (x.key<z.key)) x (l.filter fun y=> !decide (y.key=x.key)) (k.1+1) true)).flatMap lkC=((gU (fun z:Lk=>decide (x.key<z.key)) x (l.filter fun y=> !decide (y.key=x.key)) k.1 true)).flatMap lkC++lkC y:=by rw[hst.1];exact List.flatMap_append
   have el:((gU (fun z:Lk=>decide (x.key<z.key)) x (l.filter fun y=> !decide (y.key=x.key)) (k.1+1) true)).length=((gU (fun z:Lk=>decide (x.key<z.key)) x (l.filter fun y=> !decide (y.key=x.key)) k.1 true)).length+1:=by rw[hst.1];simp
   refine Qp<|Qp<|Qp<|Qp<|Qp<|Qp<|Qp<|Qp<|Qv Pf<|Ql<|Ps<|Cf<|Sk<|Ps<|Rg<|Lv Mv<|Lv Mv<|Lv Mv<|Lv (Val.indexAddrN (i:=k.1) rfl rfl Tryz.underlying159 Tryz.sizeOf165 om_)<|LW.re 50 (.pointer (some ⟨g,k.1*5,none⟩)) rfl (by simp)<|Lv (La (lkC y) (r:=(own_el lkC_len hy r).choose) (hl:=(own_el lkC_len hy r).choose_spec))<|Le (Eff.buildSlice (rfl) [_,_,_,_,_] Tryz.underlying159 Tryz.sizeOf165 (by exact Tryz.zeroValue165) rfl rfl rfl rfl (by rfl)) fun b52 _=>Le (Eff.appendAny (lkC y) (sz:=5) (bytes:=48) (z:= .agg #[.string ⟨#[]⟩,.int .u64 0,.int .u64 0,.int .i64 0,.int .i64 0]) (xs:=(gU (fun z:Lk=>decide (x.key<z.key)) x (l.filter fun y=> !decide (y.key=x.key)) k.1 true).flatMap lkC) (m0:=(gU (fun z:Lk=>decide (x.key<z.key)) x (l.filter fun y=> !decide (y.key=x.key)) k.1 true).length) (o:=k.2.2) (m:=1) (pk:=[ownG 165 ((gU (fun z:Lk=>decide (x.key<z.key)) x (l.filter fun y=> !decide (y.key=x.key)) k.1 true).flatMap lkC) (k.2.2)]) rfl rfl Tryz.underlying159 kr_ rfl om_ pk_ (by simp) hk3 (by rfl) (fun hm0=>⟨b52,0,rfl,fun w hw=>V.range_of_block (o:=0) (cs:=lkC y) (r:=[]) (hw.own _ (show InS (b52,.cells (lkC y).toArray 165 (0,0)) _ from in_).mem) rfl⟩) (by rfl) om_ om_) fun oY hoY=>?_
   rw[← ea,← el] at hoY⊢
   refine pA_ 9 ?_
   exact roundA ((k.1+1,true,oY)) ⟨by simp only;omega,hst.2,hoY⟩ (by simp only;omega)
 ·have hk9:(l.filter fun y=> !decide (y.key=x.key)).length≤k.1:=by omega
  have hle:=gU_le (fun z:Lk=>decide (x.key<z.key)) x (l.filter fun y=> !decide (y.key=x.key)) k.1 k.2.1
  refine pA_ 12 ?_
  refine Cd_ rfl (fun h55=>?_) fun h55=>?_
  ·have hs1:k.2.1=false:=by simpa using h55
   rw[hs1] at hk2 hk3 hle⊢
   refine Rg<|Lv Mv<|Lv (Lw (l:=lkC x))<|Le (Eff.buildSlice (rfl) [_,_,_,_,_] Tryz.underlying159 Tryz.sizeOf165 (by exact Tryz.zeroValue165) rfl rfl rfl rfl (by rfl)) fun b58 _=>Le (Eff.appendAny (lkC x) (sz:=5) (bytes:=48) (z:= .agg #[.string ⟨#[]⟩,.int .u64 0,.int .u64 0,.int .i64 0,.int .i64 0]) (xs:=(gU (fun z:Lk=>decide (x.key<z.key)) x (l.filter fun y=> !decide (y.key=x.key)) k.1 false).flatMap lkC) (m0:=(gU (fun z:Lk=>decide (x.key<z.key)) x (l.filter fun y=> !decide (y.key=x.key)) k.1 false).length) (o:=k.2.2) (m:=1) (pk:=[ownG 165 ((gU (fun z:Lk=>decide (x.key<z.key)) x (l.filter fun y=> !decide (y.key=x.key)) k.1 false).flatMap lkC) (k.2.2)]) rfl rfl Tryz.underlying159 kr_ rfl om_ pk_ (by simp) hk3 (by rfl) (fun hm0=>⟨b58,0,rfl,fun w hw=>V.range_of_block (o:=0) (cs:=lkC x) (r:=[]) (hw.own _ (show InS (b58,.cells (lkC x).toArray 165 (0,0)) _ from in_).mem) rfl⟩) (by rfl) om_ om_) fun oZ hoZ=>Lv Av<|Nl<|Ps<|Sq<|Rg<|Lv Mv<|Lv Mv<|Lv Nz<|Lv (Fa 0 159)<|LeN (StS (h1:=V.ownV_one _ _)) fun _ _=>Nl<|Ps<|Sq<|Rg<|Lv Mv<|Lv Av<|Nl<|Ps<|Rt<|Rt1 ?_
   have e55:(gU (fun z:Lk=>decide (x.key<z.key)) x (l.filter fun y=> !decide (y.key=x.key)) k.1 false).flatMap lkC++lkC x=(insG (fun z:Lk=>decide (x.key<z.key)) x (l.filter fun y=> !decide (y.key=x.key))).flatMap lkC:=by rw[← gU_end0 hk9 hk2,List.flatMap_append];rfl
   have l55:(gU (fun z:Lk=>decide (x.key<z.key)) x (l.filter fun y=> !decide (y.key=x.key)) k.1 false).length+1=(insG (fun z:Lk=>decide (x.key<z.key)) x (l.filter fun y=> !decide (y.key=x.key))).length:=by rw[← gU_end0 hk9 hk2];simp
   rw[e55,l55] at hoZ⊢
   exact fi_ oZ hoZ
  ·have hs1:k.2.1=true:=by simpa using h55
   rw[hs1] at hk2 hk3 hle⊢
   refine pA_ 8 ?_
   refine LeN (StS (h1:=V.ownV_one _ _)) fun _ _=>pA_ 10 ?_
   rw[gU_end1 hk9] at hk3⊢
   exact fi_ k.2.2 hk3
end
section
attribute [local irreducible] V.CW V.LW V.QW V.RW V.PQ V.Val V.Eff V.Qcall
open V (str byC ownV ownG ownS ownOk)
theorem places162:∀w,((Array.mapM (fun(f:Field)=>do pure (f.offset,← sizeOf f.type)) (Tryz.prog.fieldsOf 162):Sem (Array (Nat×Nat)))).run Tryz.prog w= .ok [(0,1),(1,1),(2,1),(3,1),(4,1),(5,1),(6,1),(7,1),(8,1),(9,1)].toArray w:=by
 intro w;kernel_rfl
theorem places192:∀w,((Array.mapM (fun(f:Field)=>do pure (f.offset,← sizeOf f.type)) (Tryz.prog.fieldsOf 192):Sem (Array (Nat×Nat)))).run Tryz.prog w= .ok [(0,1)].toArray w:=by
 intro w;kernel_rfl
theorem places203:∀w,((Array.mapM (fun(f:Field)=>do pure (f.offset,← sizeOf f.type)) (Tryz.prog.fieldsOf 203):Sem (Array (Nat×Nat)))).run Tryz.prog w= .ok [(0,1)].toArray w:=by
 intro w;kernel_rfl
instance:Siz Tryz.prog 154 (kOf Tryz.sizeOf154):=⟨Tryz.sizeOf154⟩
instance:AgF Tryz.prog 154:=⟨Tryz.isAgg154⟩
instance:Siz Tryz.prog 155 (kOf Tryz.sizeOf155):=⟨Tryz.sizeOf155⟩
instance:AgF Tryz.prog 155:=⟨Tryz.isAgg155⟩
instance:Siz Tryz.prog 156 (kOf Tryz.sizeOf156):=⟨Tryz.sizeOf156⟩
instance:AgF Tryz.prog 156:=⟨Tryz.isAgg156⟩
instance:Siz Tryz.prog 157 (kOf Tryz.sizeOf157):=⟨Tryz.sizeOf157⟩
instance:AgF Tryz.prog 157:=⟨Tryz.isAgg157⟩
instance:Siz Tryz.prog 158 (kOf Tryz.sizeOf158):=⟨Tryz.sizeOf158⟩
instance:AgF Tryz.prog 158:=⟨Tryz.isAgg158⟩
instance:Und Tryz.prog 162 (dOf Tryz.underlying162):=⟨Tryz.underlying162⟩
instance:Zer Tryz.prog 162 (zOf Tryz.zeroValue162):=⟨Tryz.zeroValue162⟩
instance:Und Tryz.prog 203 (dOf Tryz.underlying203):=⟨Tryz.underlying203⟩
instance:Zer Tryz.prog 203 (zOf Tryz.zeroValue203):=⟨Tryz.zeroValue203⟩
instance:Plc Tryz.prog 162 (fOf Tryz.underlying162) (lOf (P:=Tryz.prog) places162):=⟨places162,Tryz.underlying162⟩
instance:Plc Tryz.prog 192 (fOf Tryz.underlying192) (lOf (P:=Tryz.prog) places192):=⟨places192,Tryz.underlying192⟩
instance:Plc Tryz.prog 203 (fOf Tryz.underlying203) (lOf (P:=Tryz.prog) places203):=⟨places203,Tryz.underlying203⟩
instance:Cal Tryz.prog 37:=⟨Tryz.call37⟩
instance:Cal Tryz.prog 155:=⟨Tryz.call155⟩
instance:Cal Tryz.prog 156:=⟨Tryz.call156⟩
instance:Cal Tryz.prog 157:=⟨Tryz.call157⟩
theorem mapK_app (A B:List Fnd):mapK (A++B)=mapK A++mapK B:=by unfold mapK;rw[List.filter_append,List.map_append]
theorem dup_no {l:List Fnd}{i k:Nat}{x y:Fnd}(hik:i<k)(hx:l[i]? =some x)(hy:l[k]? =some y)(hkx:x.b.kind=1)(hky:y.b.kind=1)(he:x.b.key=y.b.key):¬(mapK l).Nodup:=by
 obtain⟨hi,hv⟩:=List.getElem?_eq_some_iff.1 hy
 have h1:=List.take_append_drop k l
 rw[List.drop_eq_getElem_cons hi,hv] at h1
 rw[← h1,mapK_app]
 intro h
 have h2:=(List.nodup_append.1 h).2.2
 have hm:x∈l.take k:=List.mem_of_getElem? (i:=i) (by rw[List.getElem?_take,if_pos hik];exact hx)
 refine h2 y.b.key (mapK_mem.2 ⟨x,hm,hkx,he⟩) y.b.key (mapK_mem.2 ⟨y,List.mem_cons_self,hky,rfl⟩) rfl
theorem nodup_step {l:List Fnd}{k:Nat}{y:Fnd}(hy:l[k]? =some y)(hn:(mapK (l.take k)).Nodup)(h:y.b.kind=1→∀g∈l.take k,g.b.kind=1→g.b.key≠y.b.key):(mapK (l.take (k+1))).Nodup:=by
 have e:l.take (k+1)=l.take k++[y]:=by rw[List.take_add_one,hy];rfl
 rw[e,mapK_snoc]
 by_cases hk:y.b.kind=1
 ·rw[if_pos hk]
  refine List.nodup_append.2 ⟨hn,by simp,fun a ha b hb=>?_⟩
  rw[List.mem_singleton.1 hb]
  obtain⟨g,hg,hgk,hge⟩:=mapK_mem.1 ha
  intro h9
  exact h hk g hg hgk (hge.trans h9)
 ·rw[if_neg hk,List.append_nil];exact hn
theorem mem_snoc {α:Type}{l:List α}{k:Nat}{y:α}(hy:l[k]? =some y){p:α→Prop}(h:∀f∈l.take k,p f)(hp:p y):∀f∈l.take (k+1),p f:=by
 rw[List.take_add_one,hy]
 intro f hf
 rcases List.mem_append.1 hf with hf|hf
 ·exact h f hf
 ·rw[show f=y by simpa using hf];exact hp
theorem mem_all {α:Type}{l:List α}{k:Nat}(hk:l.length≤k){p:α→Prop}(h:∀f∈l.take k,p f):∀f∈l,p f:=by rw[List.take_of_length_le hk] at h;exact h
theorem rfits_c (l:List Fnd)(p:Option Addr)(cp:Nat)(hl:l.length≤100000)(hok:∀f∈l,fdOk f)(w:World)(h:V.slAt w p 9 fdC l):Calls Tryz.prog 87 [.slice p l.length cp].toArray w fun e w'=>e= .returned (.int .i64 (fitsF l))∧Below w.heap.size w w':=by
 refine Cb_ Tryz.func87 rfl Tryz.ntmps87<|pA_ 12 ?_
 refine loopA (γ:=Nat) (fun k=>[(0,.slice p l.length cp),(3,.int .i64 (k:Nat))]) (fun _=>[]) (fun k=>k≤l.length∧∀f∈l.take k,¬(1152921504606846976<f.b.id∨1152921504606846976<f.b.ver)) (fun k=>l.length-k) (0) ⟨Nat.zero_le _,by simp⟩ fun k=>?_
 rintro⟨hk1,hk2⟩
 refine pA_ 9 ?_
 refine Cd_ rfl (fun h10=>?_) fun h10=>?_
 ·have hk9:k<l.length:=by omega
  obtain⟨bb1,o1,y,rfl,hb1,hy,hr1⟩:=V.slAt_at h rfl (k:=k) hk9
  refine pA_ 8 ?_
  refine Lv (Val.indexAddrN (i:=k) rfl rfl Tryz.underlying40 Tryz.sizeOf97 om_)<|Lv (Fa 2 53)<|Lv (Fa 2 22)<|Lv (Val.loadO rfl Tryz.isAgg22 hb1 (by simp[ids]) (hr1 k _ hy 4 _ rfl))<|Lv Cm<|Lv Mv ?_
  refine LW.split (d:=20) rfl (fun h20=>?_) (fun h20=>?_)
  ·replace h20:=bT h20
   refine pA_ 23 ?_
   have e8:fitsF l=10:=by
    unfold fitsF;rw[if_pos]
    exact List.any_eq_true.2 ⟨y,List.mem_of_getElem? hy,by simp only[Bool.or_eq_true,decide_eq_true_eq];omega⟩
   rw[e8]
   exact fb_
  ·replace h20:=bF h20
   refine Lv Mv<|Lv Mv<|Lv (Val.indexAddrN (i:=k) rfl rfl Tryz.underlying40 Tryz.sizeOf97 om_)<|Lv (Fa 2 53)<|Lv (Fa 3 22)<|Lv (Val.loadO rfl Tryz.isAgg22 hb1 (by simp[ids]) (hr1 k _ hy 5 _ rfl))<|pA_ 4 ?_
   refine Cd_ rfl (fun h28=>?_) fun h28=>?_
   ·refine pA_ 12 ?_
    have e8:fitsF l=10:=by
     unfold fitsF;rw[if_pos]
     exact List.any_eq_true.2 ⟨y,List.mem_of_getElem? hy,by simp only[Bool.or_eq_true,decide_eq_true_eq];omega⟩
    rw[e8]
    exact fb_
   ·have hk3:=mem_snoc (p:=fun f:Fnd=>¬(1152921504606846976<f.b.id∨1152921504606846976<f.b.ver)) hy hk2 om_
    refine pA_ 8 ?_
    exact roundA (k+1) ⟨by omega,hk3⟩ om_
 ·have hk9:l.length≤k:=by omega
  have hfar:ovFar l=false:=by
   refine List.any_eq_false.2 fun f hf=>?_
   have h8:=mem_all hk9 hk2 f hf
   simp only[Bool.or_eq_true,decide_eq_true_eq]
   omega
  refine pA_ 12 ?_
  refine loopA (γ:=Nat) (fun k=>[(0,.slice p l.length cp),(4,.int .i64 (k:Nat))]) (fun _=>[]) (fun k=>k≤l.length∧(∀f∈l.take k,badR f=false)∧(mapK (l.take k)).Nodup) (fun k=>l.length-k) (0) ⟨Nat.zero_le _,by simp,by simp[mapK]⟩ fun k=>?_
  rintro⟨hk1,hk2,hk3⟩
  refine pA_ 9 ?_
  refine Cd_ rfl (fun h32=>?_) fun h32=>?_
  ·have hk9:k<l.length:=by omega
   obtain⟨bb1,o1,y,rfl,hb1,hy,hr1⟩:=V.slAt_at h rfl (k:=k) hk9
   refine pA_ 8 ?_
   refine Lv (Val.indexAddrN (i:=k) rfl rfl Tryz.underlying40 Tryz.sizeOf97 om_)<|Lv (Fa 2 53)<|Lv (Val.loadOA (cs:=blC y.b) rfl Tryz.isAgg53 hb1 (by simp[ids]) (V.rangeAt_sub (hr1 k y hy) 2 (r:=[]) rfl) Tryz.sizeOf53)<|Le AA fun b5 _=>LeN (StW (cs:=blC y.b)) fun _ _=>pA_ 7 ?_
   refine Lv (Val.indexAddrN (i:=k) rfl rfl Tryz.underlying40 Tryz.sizeOf97 om_)<|Lv (Fa 1 4)<|Lv (Val.loadO rfl Tryz.isAgg4 hb1 (by simp[ids]) (hr1 k _ hy 1 _ rfl))<|Lv Nt<|Lv Mv ?_
   refine LW.split (d:=46) rfl (fun h46=>?_) (fun h46=>?_)
   ·replace h46:=bT h46
    have h46:y.good=false:=by simpa using h46
    refine pA_ 30 ?_
    have hbd:badR y=true:=by
     unfold badR
     simp only[Bool.or_eq_true,Bool.not_eq_true',Bool.and_eq_true,decide_eq_true_eq]
     exact .inl (.inl h46)
    have e8:fitsF l=3:=by
     unfold fitsF;rw[if_neg (by simp[hfar]),if_pos (.inl (List.any_eq_true.2 ⟨y,List.mem_of_getElem? hy,hbd⟩))]
    rw[e8]
    exact fb_
   ·replace h46:=bF h46
    have h46:y.good=true:=by simpa using h46
    refine Lv (Lw (l:=blC y.b))<|Le (Cz_ (rmay_c y.b (hok y (List.mem_of_getElem? hy)))) fun _ _=>pA_ 3 ?_
    refine LW.split (d:=51) rfl (fun h51=>?_) (fun h51=>?_)
    ·replace h51:=bT h51
     have h51:mayF y.b=false:=by simpa using h51
     refine pA_ 25 ?_
     have hbd:badR y=true:=by
      unfold badR
      simp only[Bool.or_eq_true,Bool.not_eq_true',Bool.and_eq_true,decide_eq_true_eq]
      exact .inl (.inr h51)
     have e8:fitsF l=3:=by
      unfold fitsF;rw[if_neg (by simp[hfar]),if_pos (.inl (List.any_eq_true.2 ⟨y,List.mem_of_getElem? hy,hbd⟩))]
     rw[e8]
     exact fb_
    ·replace h51:=bF h51
     have h51:mayF y.b=true:=by simpa using h51
     refine Lv (Fa 1 3)<|Lv Ld<|Lv Cm<|Lv Mv ?_
     refine LW.split (d:=55) rfl (fun h55=>?_) (fun h55=>?_)
     ·replace h55:=bT h55
      have h55:y.b.kind≠1:=h55
      refine Lv (Fa 1 3)<|Lv Ld<|pA_ 5 ?_
      refine Cd_ rfl (fun h60=>?_) fun h60=>?_
      ·have h60:y.b.kind≠2:=h60
       refine pA_ 13 ?_
       have hbd:badR y=true:=by
        unfold badR
        simp only[Bool.or_eq_true,Bool.not_eq_true',Bool.and_eq_true,decide_eq_true_eq]
        exact .inr ⟨h55,h60⟩
       have e8:fitsF l=3:=by
        unfold fitsF;rw[if_neg (by simp[hfar]),if_pos (.inl (List.any_eq_true.2 ⟨y,List.mem_of_getElem? hy,hbd⟩))]
       rw[e8]
       exact fb_
      ·have h60:y.b.kind=2:=h60
       have hbad:badR y=false:=by unfold badR;simp only[Bool.or_eq_false_iff,Bool.not_eq_false',Bool.and_eq_false_iff,decide_eq_false_iff_not];exact⟨⟨h46,h51⟩,.inr (fun h=>h h60)⟩
       refine pA_ 8 ?_
       refine loopA (γ:=Nat) (fun j=>[(0,.slice (some ⟨bb1,o1,none⟩) l.length cp),(4,.int .i64 (k:Nat)),(5,.pointer (some ⟨b5,0,none⟩)),(6,.int .i64 (j:Nat))]) (fun _=>[[(b5,.cells (blC y.b).toArray 53 (0,0))]]) (fun j=>j≤k∧(y.b.kind=1→∀f∈l.take j,f.b.kind=1→f.b.key≠y.b.key)) (fun j=>k-j) (0) ⟨Nat.zero_le _,by simp⟩ fun j=>?_
       rintro⟨hj1,hj2⟩
       refine pA_ 8 ?_
       refine Cd_ rfl (fun h63=>?_) fun h63=>?_
       ·have hj9:j<k:=by omega
        obtain⟨g,hg⟩:∃g,l[j]? =some g:=⟨l[j]'om_,by simp⟩
        refine pA_ 5 ?_
        refine Qt<|Qv (Fa 1 3)<|Qv Ld<|Qv Cm<|Qv Mv ?_
        refine QW.split (d:=69) rfl (fun h69=>?_) (fun h69=>?_)
        ·replace h69:=bT h69
         have h69:y.b.kind=1:=h69
         refine Qv Mv<|Qv Mv<|Qv (Val.indexAddrN (i:=j) rfl rfl Tryz.underlying40 Tryz.sizeOf97 om_)<|Qv (Fa 2 53)<|Qv (Fa 1 3)<|Qv (Val.loadO rfl Tryz.isAgg3 hb1 (by simp[ids]) (hr1 j _ hg 3 _ rfl))<|pA_ 3 ?_
         refine QW.split (d:=78) rfl (fun h78=>?_) (fun h78=>?_)
         ·replace h78:=bT h78
          have h78:g.b.kind=1:=h78
          refine Qv Mv<|Qv Mv<|Qv (Val.indexAddrN (i:=j) rfl rfl Tryz.underlying40 Tryz.sizeOf97 om_)<|Qv (Fa 2 53)<|Qv (Fa 5 9)<|Qv (Val.loadO rfl Tryz.isAgg9 hb1 (by simp[ids]) (hr1 j _ hg 7 _ rfl))<|Qv (Fa 5 9)<|Qv Ld<|Qv ES<|pA_ 3 ?_
          refine Cd_ rfl (fun h88=>?_) fun h88=>?_
          ·have h88:g.b.key=y.b.key:=h88
           refine pA_ 16 ?_
           have e8:fitsF l=3:=by
            unfold fitsF;rw[if_neg (by simp[hfar]),if_pos (.inr (dup_no hj9 hg hy h78 h69 h88))]
           rw[e8]
           exact fb_
          ·have h88:¬g.b.key=y.b.key:=h88
           refine pA_ 8 ?_
           exact roundA (j+1) ⟨by omega,fun h1=>mem_snoc (p:=fun f:Fnd=>f.b.kind=1→f.b.key≠y.b.key) hg (hj2 h1) (by intro h2 h3;exact h88 h3)⟩ om_
         ·replace h78:=bF h78
          have h78:¬g.b.kind=1:=h78
          refine pA_ 21 ?_
          exact roundA (j+1) ⟨by omega,fun h1=>mem_snoc (p:=fun f:Fnd=>f.b.kind=1→f.b.key≠y.b.key) hg (hj2 h1) (by intro h2 h3;exact absurd h2 h78)⟩ om_
        ·replace h69:=bF h69
         have h69:¬y.b.kind=1:=h69
         refine pA_ 30 ?_
         exact roundA (j+1) ⟨by omega,fun h1=>mem_snoc (p:=fun f:Fnd=>f.b.kind=1→f.b.key≠y.b.key) hg (hj2 h1) (by intro h2 h3;exact absurd h1 h69)⟩ om_
       ·have hj9:j=k:=by omega
        subst hj9
        refine pA_ 11 ?_
        exact roundA (j+1) ⟨by omega,mem_snoc hy hk2 hbad,nodup_step hy hk3 hj2⟩ om_
     ·replace h55:=bF h55
      have h55:y.b.kind=1:=h55
      have hbad:badR y=false:=by unfold badR;simp only[Bool.or_eq_false_iff,Bool.not_eq_false',Bool.and_eq_false_iff,decide_eq_false_iff_not];exact⟨⟨h46,h51⟩,.inl (fun h=>h h55)⟩
      refine pA_ 16 ?_
      refine loopA (γ:=Nat) (fun j=>[(0,.slice (some ⟨bb1,o1,none⟩) l.length cp),(4,.int .i64 (k:Nat)),(5,.pointer (some ⟨b5,0,none⟩)),(6,.int .i64 (j:Nat))]) (fun _=>[[(b5,.cells (blC y.b).toArray 53 (0,0))]]) (fun j=>j≤k∧(y.b.kind=1→∀f∈l.take j,f.b.kind=1→f.b.key≠y.b.key)) (fun j=>k-j) (0) ⟨Nat.zero_le _,by simp⟩ fun j=>?_
      rintro⟨hj1,hj2⟩
      refine pA_ 8 ?_
      refine Cd_ rfl (fun h63=>?_) fun h63=>?_
      ·have hj9:j<k:=by omega
       obtain⟨g,hg⟩:∃g,l[j]? =some g:=⟨l[j]'om_,by simp⟩
       refine pA_ 5 ?_
       refine Qt<|Qv (Fa 1 3)<|Qv Ld<|Qv Cm<|Qv Mv ?_
       refine QW.split (d:=69) rfl (fun h69=>?_) (fun h69=>?_)
       ·replace h69:=bT h69
        have h69:y.b.kind=1:=h69
        refine Qv Mv<|Qv Mv<|Qv (Val.indexAddrN (i:=j) rfl rfl Tryz.underlying40 Tryz.sizeOf97 om_)<|Qv (Fa 2 53)<|Qv (Fa 1 3)<|Qv (Val.loadO rfl Tryz.isAgg3 hb1 (by simp[ids]) (hr1 j _ hg 3 _ rfl))<|pA_ 3 ?_
        refine QW.split (d:=78) rfl (fun h78=>?_) (fun h78=>?_)
        ·replace h78:=bT h78
         have h78:g.b.kind=1:=h78
         refine Qv Mv<|Qv Mv<|Qv (Val.indexAddrN (i:=j) rfl rfl Tryz.underlying40 Tryz.sizeOf97 om_)<|Qv (Fa 2 53)<|Qv (Fa 5 9)<|Qv (Val.loadO rfl Tryz.isAgg9 hb1 (by simp[ids]) (hr1 j _ hg 7 _ rfl))<|Qv (Fa 5 9)<|Qv Ld<|Qv ES<|pA_ 3 ?_
         refine Cd_ rfl (fun h88=>?_) fun h88=>?_
         ·have h88:g.b.key=y.b.key:=h88
          refine pA_ 16 ?_
          have e8:fitsF l=3:=by
           unfold fitsF;rw[if_neg (by simp[hfar]),if_pos (.inr (dup_no hj9 hg hy h78 h69 h88))]
          rw[e8]
          exact fb_
         ·have h88:¬g.b.key=y.b.key:=h88
          refine pA_ 8 ?_
          exact roundA (j+1) ⟨by omega,fun h1=>mem_snoc (p:=fun f:Fnd=>f.b.kind=1→f.b.key≠y.b.key) hg (hj2 h1) (by intro h2 h3;exact h88 h3)⟩ om_
        ·replace h78:=bF h78
         have h78:¬g.b.kind=1:=h78
         refine pA_ 21 ?_
         exact roundA (j+1) ⟨by omega,fun h1=>mem_snoc (p:=fun f:Fnd=>f.b.kind=1→f.b.key≠y.b.key) hg (hj2 h1) (by intro h2 h3;exact absurd h2 h78)⟩ om_
       ·replace h69:=bF h69
        have h69:¬y.b.kind=1:=h69
        refine pA_ 30 ?_
        exact roundA (j+1) ⟨by omega,fun h1=>mem_snoc (p:=fun f:Fnd=>f.b.kind=1→f.b.key≠y.b.key) hg (hj2 h1) (by intro h2 h3;exact absurd h1 h69)⟩ om_
      ·have hj9:j=k:=by omega
       subst hj9
       refine pA_ 11 ?_
       exact roundA (j+1) ⟨by omega,mem_snoc hy hk2 hbad,nodup_step hy hk3 hj2⟩ om_
  ·have hk9:l.length≤k:=by omega
   refine pA_ 12 ?_
   have hb:=mem_all hk9 hk2
   rw[List.take_of_length_le hk9] at hk3
   have e8:fitsF l=0:=by
    unfold fitsF;rw[if_neg (by simp[hfar]),if_neg]
    rintro(h1|h1)
    ·obtain⟨f,hf,h2⟩:=List.any_eq_true.1 h1
     rw[hb f hf] at h2;cases h2
    ·exact h1 hk3
   rw[e8]
   exact fb_
structure RAw where
 ab:Nat
 pb:Nat
 rb:Nat
 rl:Nat
 cb:Nat
 nb:Nat
 bb:Nat
 tb:Nat
 po:V.OwnO
 to:V.OwnO
 qo:V.OwnO
def raC (a:RAw)(db:Nat)(r:ROv):List Value:=[.pointer (some ⟨db,0,none⟩),.pointer (some ⟨a.pb,0,none⟩),.pointer (some ⟨a.rb,0,none⟩),.pointer (some ⟨a.cb,0,none⟩),.pointer (some ⟨a.bb,0,none⟩),.pointer (some ⟨a.tb,0,none⟩),ownV r.q.length a.qo,.int .u64 r.id,.int .u64 r.ver,.slice none 0 0]
abbrev raS (a:RAw)(db th:Nat)(n:Int)(e0:Int)(r:ROv)(tl:Sg):Sg:=
 [(a.ab,.cells (raC a db r).toArray 162 (0,0))]::[(a.bb,.cells [.slice none 0 0].toArray 203 (0,0))]::ownG 165 (r.q.flatMap lkC) a.qo::
 [(a.tb,.cells [ownV r.tl.length a.to].toArray 192 (0,0))]::ownG 165 (r.tl.flatMap lkC) a.to::
 [(a.pb,.cells [.int .i64 n,ownV r.T.length a.po].toArray 245 (0,0))]::ownG 268 (r.T.flatMap tkC) a.po::
 [(a.rb,.cells [.slice (some ⟨a.rl,0,none⟩) th th,.int .u64 1].toArray 215 (0,0))]::[(a.rl,.cells (List.replicate th (.int .u64 0)).toArray 22 (0,0))]::
 [(a.cb,.cells (rkC a.nb th e0).toArray 210 (0,0))]::[(a.nb,.cells (List.replicate th (.slice none 0 0)).toArray 24 (0,0))]::tl
structure RaOk (a:RAw)(r:ROv):Prop where
 p:ownOk 2 r.T.length (r.T.flatMap tkC) a.po
 t:ownOk 5 r.tl.length (r.tl.flatMap lkC) a.to
 q:ownOk 5 r.q.length (r.q.flatMap lkC) a.qo
theorem rbare_g (x:DvR)(v:Dev)(hm:10≤v.D.length∧v.D.length≤258)(th:Nat)(ht:1≤th∧th≤4)(e0:Int)(he:0≤e0∧e0≤1152921504606846976):Mo Tryz.prog 88 [.pointer (some ⟨x.db,0,none⟩),.int .i64 (th:Nat),.int .u64 e0] (rvS3 x v) (fun a:RAw=>RaOk a rov0) (fun a=> .pointer (some ⟨a.ab,0,none⟩)) (fun a=>raS a x.db th (slabsF v.D.length) e0 rov0 (rvS3 x v)):=by
 intro w hs
 obtain⟨n,hn,hn1,hn2⟩:∃n:Nat,slabsF (v.D.length:Nat)=n∧1≤n∧n≤32:=⟨(slabsF (v.D.length:Nat)).toNat,by unfold slabsF;split<;>omega,by unfold slabsF;split<;>omega,by unfold slabsF;split<;>omega⟩
 rw[hn]
 refine Ca_ Tryz.func88 rfl Tryz.ntmps88 hs<|pA_ 10 ?_
 refine Lv (Ld (v:= .slice (some ⟨x.cb,0,none⟩) v.D.length x.cap))<|Lv Ln<|Le (Cz_ (rslabs_c v.D.length)) fun _ _=>LW.re 19 (.int .i64 (n:Nat)) rfl (by rw[hn])<|Le (Cn_ (rnewP_g n hn1 hn2)) fun pb _=>pA_ 10 ?_
 refine Le (Cn_ (rnewR_g th ht.1 ht.2)) fun pr _=>pA_ 11 ?_
 refine Le (Cn_ (rnewK_g th ht.1 ht.2 e0 he)) fun pk _=>pA_ 8 ?_
 refine V.CW.addOwn 165<|V.CW.addOwn 165<|pA_ 5 ?_
 refine Lv (Bd [_])<|Le XA fun b39 _=>Lv (Bd [_])<|Le XA fun b41 _=>Lv (Bd [_,_,_,_,_,_,_,_,_,_])<|Le XA fun b43 _=>pA_ 5 ?_
 exact fi_ ⟨b43,pb,pr.1,pr.2,pk.1,pk.2,b39,b41,none,none,none⟩ ⟨⟨rfl,rfl⟩,⟨rfl,rfl⟩,⟨rfl,rfl⟩⟩
end
section
attribute [local irreducible] V.CW V.LW V.QW V.RW V.PQ V.Val V.Eff V.Qcall
open V (str byC ownV ownG ownS ownOk)
instance:Cal Tryz.prog 87:=⟨Tryz.call87⟩
instance:Cal Tryz.prog 88:=⟨Tryz.call88⟩
instance:Cal Tryz.prog 89:=⟨Tryz.call89⟩
instance:Cal Tryz.prog 90:=⟨Tryz.call90⟩
instance:Cal Tryz.prog 91:=⟨Tryz.call91⟩
instance:Cal Tryz.prog 92:=⟨Tryz.call92⟩
theorem rovAll_app (n:Nat):∀(A:List Fnd) (c:ROv) (B:List Fnd),rovAll n c (A++B)=(rovAll n c A).bind fun d=>rovAll n d B
 |[],c,B=>rfl
 |f::r,c,B=>by
  rw[List.cons_append,rovAll,rovAll]
  cases rov1 n c f with
  |none=>rfl
  |some d=>exact rovAll_app n r d B
theorem rov_more {n:Nat}{Fs:List Fnd}{k:Nat}{f:Fnd}{r:ROv}(hf:Fs[k]? =some f)(h:rovAll n rov0 (Fs.take k)=some r):rovAll n rov0 (Fs.take (k+1))=rov1 n r f:=by
 rw[List.take_add_one,hf,rovAll_app,h]
 show rovAll n r [f]=_
 rw[rovAll]
 cases rov1 n r f<;>rfl
theorem rov_stop {n:Nat}{Fs:List Fnd}{k:Nat}{f:Fnd}{r:ROv}(hf:Fs[k]? =some f)(h:rovAll n rov0 (Fs.take k)=some r)(hn:rov1 n r f=none):rovAll n rov0 Fs=none:=by
 have h1:=rov_more hf h
 rw[hn] at h1
 rw[← List.take_append_drop (k+1) Fs,rovAll_app,h1]
 rfl
theorem setR_len (l:List Lk)(x:Lk):(setR l x).length≤l.length+1:=by
 unfold setR
 rw[(insK_perm (l:=l.filter fun y=> !decide (y.key=x.key)) (x:=x)).length_eq,List.length_cons]
 have:=List.length_filter_le (fun y:Lk=> !decide (y.key=x.key)) l
 omega
theorem markT_len (n:Nat)(T:List (Int×Int))(line c:Int):(markT n T line c).1.length≤T.length+1:=by
 unfold markT;split
 ·simp
 ·split
  ·simp
  ·simp only[insT_len];omega
structure RLen (r:ROv)(k:Nat):Prop where
 p:r.T.length≤k
 t:r.tl.length≤k
 q:r.q.length≤k
def rovY (m n:Nat)(Fs:List Fnd):Option (RAw×ROv)→Prop
 |none=>rovE n Fs≠0
 |some (a,r)=>rovE n Fs=0∧rovAll m rov0 Fs=some r∧RaOk a r∧RLen r Fs.length
def rovP:Option (RAw×ROv)→Value
 |none=> .pointer none
 |some (a,_)=> .pointer (some ⟨a.ab,0,none⟩)
abbrev rovG (db th:Nat)(n e0:Int)(tl:Sg):Option (RAw×ROv)→Sg
 |none=>tl
 |some (a,r)=>raS a db th n e0 r tl
theorem rover_g (x:DvR)(v:Dev)(hm:10≤v.D.length∧v.D.length≤258)(th:Nat)(ht:1≤th∧th≤4)(e0:Int)(he:0≤e0∧e0≤1152921504606846976)(Fs:List Fnd)(p:Option Addr)(cp:Nat)(hl:Fs.length≤1000)(hok:∀f∈Fs,fdOk f)(w:World)(hs:Sat (rvS3 x v) w)(h:V.slAt w p 9 fdC Fs)(hd:∀b o,p=some ⟨b,o,none⟩→b∉V.ids (rvS3 x v)):Calls Tryz.prog 38 [.pointer (some ⟨x.db,0,none⟩),.int .i64 (th:Nat),.int .u64 e0,.slice p Fs.length cp].toArray w fun e w'=>∃y:Option (RAw×ROv),rovY (slabsF v.D.length).toNat v.D.length Fs y∧e= .returned (.tuple #[rovP y,.int .i64 (rovE v.D.length Fs)])∧Hp ⟨w,V.ids (rvS3 x v)⟩ (rovG x.db th (slabsF v.D.length) e0 (rvS3 x v) y) w':=by
 obtain⟨n,hn,hn1,hn2⟩:∃n:Nat,slabsF (v.D.length:Nat)=n∧1≤n∧n≤32:=⟨(slabsF (v.D.length:Nat)).toNat,by unfold slabsF;split<;>omega,by unfold slabsF;split<;>omega,by unfold slabsF;split<;>omega⟩
 refine Cs_ (rvS3 x v) Tryz.func38 rfl Tryz.ntmps38 hs<|pA_ 21 ?_
 refine LW.re 16 (.bool false) rfl (by congr 1;simp;omega)<|pA_ 3 ?_
 refine LW.re 19 (.bool false) rfl (by congr 1;simp;omega)<|pA_ 5 ?_
 refine Lv (Ld (v:= .slice (some ⟨x.cb,0,none⟩) v.D.length x.cap))<|Lv Ln<|Lv Cm<|LW.re 27 (.bool false) rfl (by congr 1;simp;omega)<|pA_ 11 ?_
 refine LW.re 30 (.bool false) rfl (by congr 1;simp;omega)<|pA_ 8 ?_
 refine Le (CV fun w hw=>rfits_c Fs p cp om_ hok w (hw.slAt h hd)) fun _ _=>pA_ 10 ?_
 refine Cd_ rfl (fun h34=>?_) fun h34=>?_
 ·have h34:fitsF Fs≠0:=h34
  refine pA_ 10 ?_
  have e8:rovE v.D.length Fs=fitsF Fs:=by unfold rovE;rw[if_pos h34]
  rw[e8]
  exact fi_ none (by show rovE _ _≠0;rw[e8];exact h34)
 ·have h34:fitsF Fs=0:=h34
  refine pA_ 7 ?_
  refine Le (Cm_ (rbare_g x v hm th ht e0 he)) fun a0 ha0=>?_
  rw[hn]
  refine pA_ 10 ?_
  refine loopA (γ:=Nat×RAw×ROv) (fun k=>[(0,.pointer (some ⟨x.db,0,none⟩)),(3,.slice p Fs.length cp),(11,.pointer (some ⟨k.2.1.ab,0,none⟩)),(12,.int .i64 (k.1:Nat))]) (fun k=>raS k.2.1 x.db th n e0 k.2.2 (rvS3 x v)) (fun k=>k.1≤Fs.length∧rovAll n rov0 (Fs.take k.1)=some k.2.2∧RaOk k.2.1 k.2.2∧RLen k.2.2 k.1) (fun k=>Fs.length-k.1) ((0,a0,rov0)) ⟨Nat.zero_le _,rfl,ha0,⟨Nat.le_refl _,Nat.le_refl _,Nat.le_refl _⟩⟩ fun k=>?_
  rintro⟨hk1,hk2,hk3,hk4⟩
  refine pA_ 9 ?_
  refine Cd_ rfl (fun h43=>?_) fun h43=>?_
  ·have hk9:k.1<Fs.length:=by omega
   obtain⟨bb1,o1,f,rfl,hb1,hf,hr1⟩:=V.slAt_at h rfl (k:=k.1) hk9
   have hnf:=hd bb1 _ rfl
   have hml:=markT_len n k.2.2.T f.line f.b.cls
   replace hml:(markT n k.2.2.T f.line f.b.cls).1.length≤k.1+1:=by have:=hk4.p;omega
   refine pA_ 6 ?_
   refine Dr ([])<|pR_ [0,1,2,4,5] ?_
   refine Rv 6 rfl (Val.indexAddrN (i:=k.1) rfl rfl Tryz.underlying40 Tryz.sizeOf97 om_)<|Rv 7 rfl (Fa 0 3)<|Rv 8 rfl (Val.loadO rfl Tryz.isAgg3 hb1 hnf (hr1 k.1 f hf 0 _ rfl))<|pR_ [9,10] ?_
   refine Rv 11 rfl (Val.indexAddrN (i:=k.1) rfl rfl Tryz.underlying40 Tryz.sizeOf97 om_)<|pR_ [12,13] ?_
   refine Rv 14 rfl (Val.loadO rfl Tryz.isAgg3 hb1 hnf (hr1 k.1 f hf 2 _ rfl))<|Re 3 rfl (Eff.ofVal (Ld (v:= .pointer (some ⟨k.2.1.pb,0,none⟩)))) fun _ _=>Re 15 rfl (Cm_ (rmark_g k.2.1.pb n k.2.2.T k.2.1.po (by have:=hk4.p;omega) hk3.p f.line f.b.cls)) fun op hop=>Rv 16 rfl Cm<|Rd<|Ps ?_
   refine Cd_ rfl (fun h62=>?_) fun h62=>?_
   ·have h62:(markT n k.2.2.T f.line f.b.cls).2≠0:=h62
    refine pA_ 14 ?_
    have e9:rov1 n k.2.2 f=none:=by unfold rov1;rw[if_pos h62]
    have e8:rovE v.D.length Fs=3:=by
     unfold rovE;rw[if_neg om_,if_pos]
     rw[hn,Int.toNat_natCast,rov_stop hf hk2 e9];rfl
    rw[e8]
    exact fi_ none (by show rovE _ _≠0;rw[e8];decide)
   ·have h62:(markT n k.2.2.T f.line f.b.cls).2=0:=h62
    refine pA_ 3 ?_
    refine Dr ([])<|pR_ [0,1,2,3,5,6] ?_
    refine Rv 7 rfl (Val.indexAddrN (i:=k.1) rfl rfl Tryz.underlying40 Tryz.sizeOf97 om_)<|pR_ [8,9] ?_
    refine Rv 10 rfl (Val.loadO rfl Tryz.isAgg22 hb1 hnf (hr1 k.1 f hf 4 _ rfl))<|Re 4 rfl (Eff.ofVal (Ld (v:= .int .u64 k.2.2.id))) fun _ _=>Rv 11 rfl (Val.maxI rfl rfl)<|pR_ [12,13] ?_
    refine ReN 14 rfl StS fun _ _=>pA_ 3 ?_
    refine Dr ([])<|pR_ [0,1,2,3,5,6] ?_
    refine Rv 7 rfl (Val.indexAddrN (i:=k.1) rfl rfl Tryz.underlying40 Tryz.sizeOf97 om_)<|pR_ [8,9] ?_
    refine Rv 10 rfl (Val.loadO rfl Tryz.isAgg22 hb1 hnf (hr1 k.1 f hf 5 _ rfl))<|Re 4 rfl (Eff.ofVal (Ld (v:= .int .u64 k.2.2.ver))) fun _ _=>Rv 11 rfl (Val.maxI rfl rfl)<|pR_ [12,13] ?_
    refine ReN 14 rfl StS fun _ _=>pA_ 7 ?_
    refine Lv (Val.indexAddrN (i:=k.1) rfl rfl Tryz.underlying40 Tryz.sizeOf97 om_)<|Lv (Fa 2 53)<|Lv (Fa 1 3)<|Lv (Val.loadO rfl Tryz.isAgg3 hb1 hnf (hr1 k.1 f hf 3 _ rfl))<|pA_ 3 ?_
    refine Cd_ rfl (fun h97=>?_) fun h97=>?_
    ·have h97:f.b.kind=1:=h97
     refine Sq<|Dr ([])<|pR_ [0,1,2,4,5] ?_
     refine Rv 6 rfl (Val.indexAddrN (i:=k.1) rfl rfl Tryz.underlying40 Tryz.sizeOf97 om_)<|Rv 7 rfl (Val.loadOA (cs:=fdC f) rfl Tryz.isAgg97 hb1 hnf (hr1 k.1 f hf) Tryz.sizeOf97)<|RW.batch [(3,101,_),(8,106,_)] 1 rfl kr_ rfl rfl (by simp) (by simp) ⟨⟨_,rfl,rfl,rfl,Eff.ofVal (Ld (v:= .pointer (some ⟨k.2.1.tb,0,none⟩)))⟩,⟨_,rfl,rfl,rfl,CV fun w hw=>rlink_c f w⟩,trivial⟩ ⟨_,pk_⟩<|Re 9 rfl (Cm_ (rset_g k.2.1.tb k.2.2.tl k.2.1.to (by have:=hk4.t;omega) hk3.t (lkOf f))) fun o107 ho107=>pA_ 11 ?_
     exact roundA ((k.1+1,{k.2.1 with po:=op,to:=o107},⟨(markT n k.2.2.T f.line f.b.cls).1,imax k.2.2.id f.b.id,imax k.2.2.ver f.b.ver,setR k.2.2.tl (lkOf f),k.2.2.q⟩)) ⟨by simp only;omega,by simp only;rw[rov_more hf hk2];unfold rov1;rw[if_neg (by simpa using h62),if_pos h97,if_pos h97],⟨hop,ho107,hk3.q⟩,⟨hml,(by have h8:=setR_len k.2.2.tl (lkOf f);have:=hk4.t;simp only;omega),(by have:=hk4.q;simp only;omega)⟩⟩ (by simp only;omega)
    ·have h97:¬f.b.kind=1:=h97
     refine Sk<|Ps ?_
     obtain⟨pq,cq,hvq,hsq⟩:=own_lk hk3.q
     refine Dr ([])<|pR_ [0,1,2,3,5,6] ?_
     refine Rv 7 rfl (Val.indexAddrN (i:=k.1) rfl rfl Tryz.underlying40 Tryz.sizeOf97 om_)<|Rv 8 rfl (Val.loadOA (cs:=fdC f) rfl Tryz.isAgg97 hb1 hnf (hr1 k.1 f hf) Tryz.sizeOf97)<|RW.batch [(4,112,_),(9,117,_)] 4 rfl kr_ rfl rfl (by simp) (by simp) ⟨⟨_,rfl,rfl,rfl,Eff.ofVal (Ld (v:=ownV k.2.2.q.length k.2.1.qo))⟩,⟨_,rfl,rfl,rfl,CV fun w hw=>rlink_c f w⟩,trivial⟩ ⟨_,pk_⟩<|RW.re 112 (.slice pq k.2.2.q.length cq) rfl hvq<|Re 10 rfl (CM [] fun w hw hs0=>rbehind_c k.2.2.q pq cq (lkOf f) (by have:=hk4.q;omega) w (hsq hw pk_)) fun o118 ho118=>pR_ [11,12] ?_
     refine ReN 13 rfl (StS (h1:=V.ownV_one _ _)) fun _ _=>pA_ 8 ?_
     exact roundA ((k.1+1,{k.2.1 with po:=op,qo:=o118},⟨(markT n k.2.2.T f.line f.b.cls).1,imax k.2.2.id f.b.id,imax k.2.2.ver f.b.ver,k.2.2.tl,behF k.2.2.q (lkOf f)⟩)) ⟨by simp only;omega,by simp only;rw[rov_more hf hk2];unfold rov1;rw[if_neg (by simpa using h62),if_neg h97,if_neg h97],⟨hop,hk3.t,ho118⟩,⟨hml,(by have:=hk4.t;simp only;omega),(by have:=hk4.q;simp only[behF_len];omega)⟩⟩ (by simp only;omega)
  ·have hk9:Fs.length≤k.1:=by omega
   refine pA_ 14 ?_
   have hk9e:k.1=Fs.length:=by omega
   rw[List.take_of_length_le hk9] at hk2
   have e8:rovE v.D.length Fs=0:=by
    unfold rovE;rw[if_neg om_,if_neg]
    rw[hn,Int.toNat_natCast,hk2];simp
   rw[e8]
   exact fi_ (some (k.2.1,k.2.2)) ⟨e8,by rw[Int.toNat_natCast];exact hk2,hk3,by rw[← hk9e];exact hk4⟩
end
section
attribute [local irreducible] V.CW V.LW V.QW V.RW V.PQ V.Val V.Eff V.Qcall
open V (str byC ownV ownG ownS ownOk)
instance:Cal Tryz.prog 83:=⟨Tryz.call83⟩
instance:Cal Tryz.prog 86:=⟨Tryz.call86⟩
theorem own_src2 {T:TypeId}{l:List UInt8}{y:V.OwnO}(hy:ownOk 1 l.length (byC l) y):∃(p:Option Addr) (c:Nat),ownV l.length y= .slice p l.length c∧l.length≤c∧(∀{B:V.Base} {sg r:V.Sg} {w:World},Hp B sg w→Pick [ownG T (byC l) y] sg r→V.slAt w p 1 byE l)∧(0<l.length→∃g,p=some ⟨g,0,none⟩∧∀{B:V.Base} {sg r:V.Sg} {w:World},Hp B sg w→Pick [ownG T (byC l) y] sg r→w.rangeAt g 0 (byC l)):=by
 obtain⟨p,c,h1,h2,h3⟩:=own_srcT (T:=T) hy
 refine⟨p,c,h1,h2,h3,fun hl=>?_⟩
 obtain⟨g,r,cp,rfl⟩:=own_some hy hl
 have h4:Value.slice (some ⟨g,0,none⟩) l.length cp= .slice p l.length c:=h1
 injection h4 with h5
 exact⟨g,h5.symm,fun hw hp=>V.range_of_block (o:=0) (cs:=byC l) (r:=r) ((hw.pick hp).own _ (show InS (g,.cells (byC l++r).toArray T (0,0)) _ from .here).mem) rfl⟩
def atD (D:List Ce)(line:Int):Option Fnd:=match headF (nowL D line) with
 |none=>none
 |some (c,kd)=>if kd=0 then none else some (lookF D line c kd)
theorem rsound_c (f:Fnd)(e0:Int):Rz Tryz.prog 94 [.agg (fdC f).toArray,.int .u64 e0] (.bool (soundF e0 f)):=by
 intro w
 refine Cb_ Tryz.func94 rfl Tryz.ntmps94<|Sq<|Rg<|Le XA fun b2 _=>pA_ 6 ?_
 refine Lv (Ld (v:= .bool f.good))<|Lv Mv ?_
 refine LW.split (d:=7) rfl (fun h7=>?_) (fun h7=>?_)
 ·replace h7:=bT h7
  refine Lv (Fa 2 53)<|Lv (Fa 4 22)<|Lv (Ld (v:= .int .u64 f.b.ep))<|pA_ 8 ?_
  intro w' hw;exact⟨by unfold soundF;simp_all,hw.below⟩
 ·replace h7:=bF h7
  refine pA_ 11 ?_
  intro w' hw;exact⟨by unfold soundF;simp_all,hw.below⟩
theorem rpay_c (f:Fnd):Rz Tryz.prog 163 [.agg (fdC f).toArray] (.bool (payR f)):=by
 intro w
 refine Cb_ Tryz.func163 rfl Tryz.ntmps163<|Sq<|Rg<|Le XA fun b1 _=>pA_ 7 ?_
 refine Lv (Ld (v:= .int .i64 f.b.kind))<|Lv Cm<|Lv Mv ?_
 refine LW.split (d:=7) rfl (fun h7=>?_) (fun h7=>?_)
 ·replace h7:=bT h7
  refine pA_ 10 ?_
  intro w' hw;exact⟨by unfold payR;by_cases hk2:f.b.kind=2<;>simp_all,hw.below⟩
 ·replace h7:=bF h7
  refine Lv (Fa 2 53)<|Lv (Fa 1 3)<|Lv (Ld (v:= .int .i64 f.b.kind))<|pA_ 7 ?_
  intro w' hw;exact⟨by unfold payR;by_cases hk2:f.b.kind=2<;>simp_all,hw.below⟩
theorem rat_g (x:DvR)(v:Dev)(line:Int)(hli: -1000≤line∧line≤1000):Mo Tryz.prog 36 [.pointer (some ⟨x.db,0,none⟩),.int .i64 line] (rvS3 x v) (fun _u:Unit=>True) (fun _=> .tuple #[.agg (fdC ((atD v.D line).getD fd0)).toArray,.bool (atD v.D line).isSome]) (fun _=>rvS3 x v):=by
 intro w hs
 refine Ca_ Tryz.func36 rfl Tryz.ntmps36 hs<|Sq<|Rg<|Le AA fun b4 _=>pA_ 7 ?_
 refine Le (Cm_ (rload_g x v.D v.k line)) fun o1 ho1=>?_
 have hn1:=nowL_le v.D line
 obtain⟨p1,cp1,hv1,hc1,hsl1⟩:=own_srcT (T:=125) ho1
 refine Lv Mv<|Lv Ex<|LW.re 22 (.slice p1 (nowL v.D line).length cp1) rfl hv1<|pA_ 8 ?_
 refine Le (CV fun w hw=>rhead_c (nowL v.D line) p1 cp1 om_ w (hsl1 hw pk_)) fun _ _=>?_
 rcases hh:headF (nowL v.D line) with _|⟨c,kd⟩
 ·skip
  refine Lv Mv<|Lv Ex<|Lv Ex<|Lv Ex<|Lv Av<|Lv Av<|Lv Av<|Nl<|Ps<|Sq<|Sq<|Rg<|Lv Mv<|Lv Nt<|Lv Mv<|Lp<|Lp<|Lv Pt<|Nl<|Ps<|Ct<|Sq<|Rg<|Lv (Bd (fdC fd0))<|LeN (StW (cs:=fdC fd0)) fun _ _=>Lv Av<|Nl<|Ps<|Rt<|Tr<|PQ.retCT rfl rfl rfl in_ Tryz.isAgg97 (by exact Tryz.sizeOf97) ?_
  have e8:atD v.D line=none:=by
   unfold atD;rw[hh]
  rw[e8]
  exact fi_ () trivial
 ·have hhs:=head_some hh
  have hsp8:=span_le ((c:Nat):Int)
  refine pA_ 20 ?_
  refine Cd_ rfl (fun h35=>?_) fun h35=>?_
  ·have h35:((kd:Nat):Int)=0:=h35
   refine Sq<|Rg<|Lv (Bd (fdC fd0))<|LeN (StW (cs:=fdC fd0)) fun _ _=>Lv Av<|Nl<|Ps<|Rt<|Tr<|PQ.retCT rfl rfl rfl in_ Tryz.isAgg97 (by exact Tryz.sizeOf97) ?_
   have e8:atD v.D line=none:=by
    unfold atD;rw[hh];exact if_pos om_
   rw[e8]
   exact fi_ () trivial
  ·have h35:¬((kd:Nat):Int)=0:=h35
   refine pA_ 7 ?_
   refine Lv (Bd (blC ⟨(c:Nat),(kd:Nat),0,0,0,[],[]⟩))<|Lv (Bd (fdC ⟨line,false,⟨(c:Nat),(kd:Nat),0,0,0,[],[]⟩⟩))<|Le AA fun b11 _=>LeN (StW (cs:=fdC ⟨line,false,⟨(c:Nat),(kd:Nat),0,0,0,[],[]⟩⟩)) fun _ _=>pA_ 7 ?_
   refine Le (Cz_ (rhome_c line (c:Nat))) fun _ _=>pA_ 3 ?_
   refine Cd_ rfl (fun h45=>?_) fun h45=>?_
   ·have h45:homeF line ((c:Nat):Int)=false:=by simpa using h45
    refine Sq<|Rg<|Lv (Lw (l:=fdC ⟨line,false,⟨(c:Nat),(kd:Nat),0,0,0,[],[]⟩⟩))<|LeN (StW (cs:=fdC ⟨line,false,⟨(c:Nat),(kd:Nat),0,0,0,[],[]⟩⟩)) fun _ _=>Lv Av<|Nl<|Ps<|Rt<|Tr<|PQ.retCT rfl rfl rfl in_ Tryz.isAgg97 (by exact Tryz.sizeOf97) ?_
    have e8:atD v.D line=some ⟨line,false,⟨(c:Nat),(kd:Nat),0,0,0,[],[]⟩⟩:=by
     unfold atD;rw[hh];exact(if_neg om_).trans (by unfold lookF;rw[if_neg (by simp[h45])])
    rw[e8]
    exact fi_ () trivial
   ·have h45:homeF line ((c:Nat):Int)=true:=by simpa using h45
    refine pA_ 14 ?_
    refine V.CW.addOwn 5<|loopA (γ:=Nat×V.OwnO) (fun k=>[(0,.pointer (some ⟨x.db,0,none⟩)),(1,.int .i64 line),(4,.pointer (some ⟨b4,0,none⟩)),(8,.int .i64 ((c:Nat):Int)),(11,.pointer (some ⟨b11,0,none⟩)),(12,ownV (linesL v.D line k.1).length k.2),(13,.int .i64 (k.1:Nat))]) (fun k=>ownG 5 (byC ((linesL v.D line k.1))) (k.2)::[(b4,.cells (fdC fd0).toArray 97 (0,0))]::[(b11,.cells (fdC ⟨line,false,⟨(c:Nat),(kd:Nat),0,0,0,[],[]⟩⟩).toArray 97 (0,0))]::rvS3 x v) (fun k=>k.1≤spanF (c:Nat)∧ownOk 1 (linesL v.D line k.1).length (byC (linesL v.D line k.1)) k.2) (fun k=>spanF (c:Nat)-k.1) ((0,none)) ⟨Nat.zero_le _,rfl,rfl⟩ fun k=>?_
    rintro⟨hk1,hk2⟩
    have hln:=linesL_le v.D line k.1
    refine pA_ 5 ?_
    refine Le (Cz_ (rspan_c (c:Nat))) fun _ _=>pA_ 3 ?_
    refine Cd_ rfl (fun h50=>?_) fun h50=>?_
    ·have hk9:k.1<spanF (c:Nat):=by omega
     refine pA_ 10 ?_
     refine Le (Cm_ (rload_g x v.D v.k (line+(k.1:Nat)))) fun o2 ho2=>?_
     have hn2:=nowL_le v.D (line+(k.1:Nat))
     obtain⟨p2,cp2,hv2,hc2,hsl2,hsr2⟩:=own_src2 (T:=125) ho2
     refine Lv Mv<|Lv Ex<|LW.re 59 (.slice p2 (nowL v.D (line+(k.1:Nat))).length cp2) rfl hv2<|pA_ 8 ?_
     refine Le (Eff.appendAny (byC (nowL v.D (line+(k.1:Nat)))) (sz:=1) (bytes:=1) (z:= .int .u8 0) (xs:=byC (linesL v.D line k.1)) (m0:=(linesL v.D line k.1).length) (o:=k.2) (m:=(nowL v.D (line+(k.1:Nat))).length) (pk:=[ownG 5 (byC ((linesL v.D line k.1))) (k.2)]) rfl rfl Tryz.underlying54 kr_ rfl om_ pk_ (by simp) hk2 (by rw[V.byC_len];omega) (fun hm0=>by obtain⟨g,hg1,hg2⟩:=hsr2 hm0;exact⟨g,0,hg1,fun w1 hw1=>hg2 hw1 pk_⟩) (V.byC_one _) om_ om_) fun o3 ho3=>?_
     rw[← V.byC_append,← linesL_succ,← List.length_append,← linesL_succ] at ho3⊢
     refine pA_ 9 ?_
     exact roundA ((k.1+1,o3)) ⟨by simp only;omega,ho3⟩ (by simp only;omega)
    ·have hk9:k.1=spanF (c:Nat):=by omega
     rw[hk9] at hk2 hln⊢
     obtain⟨p3,cp3,hv3,hc3,hsl3⟩:=own_srcT (T:=5) hk2
     refine pA_ 8 ?_
     refine LW.re 65 (.slice p3 (linesL v.D line (spanF (c:Nat))).length cp3) rfl hv3<|Le (CV fun w hw=>rdecode_c (linesL v.D line (spanF (c:Nat))) p3 cp3 om_ hc3 w (hsl3 hw pk_)) fun _ _=>pA_ 3 ?_
     refine Le AA fun b16 _=>LeN (StW (cs:=blC ((decF (linesL v.D line (spanF (c:Nat)))).getD blk0))) fun _ _=>pA_ 9 ?_
     refine Cd_ rfl (fun h69=>?_) fun h69=>?_
     ·have h69:(decF (linesL v.D line (spanF (c:Nat)))).isSome=true:=h69
      refine Sq<|Rg<|Lv (Fa 1 4)<|LeN StS fun _ _=>Nl<|Ps<|Rg<|Lv (Lw (l:=blC ((decF (linesL v.D line (spanF (c:Nat)))).getD blk0)))<|Lv (Fa 2 53)<|LeN (Eff.storeA (cs:=blC ((decF (linesL v.D line (spanF (c:Nat)))).getD blk0)) (l':=fdC ⟨line,true,(decF (linesL v.D line (spanF (c:Nat)))).getD blk0⟩) rfl rfl up_ (by rfl) (by show 2+7≤9;omega) Tryz.sizeOf53 (by rfl)) fun _ _=>Nl<|Ps<|Sq<|Rg<|Lv (Lw (l:=fdC ⟨line,true,(decF (linesL v.D line (spanF (c:Nat)))).getD blk0⟩))<|LeN (StW (cs:=fdC ⟨line,true,(decF (linesL v.D line (spanF (c:Nat)))).getD blk0⟩)) fun _ _=>Lv Av<|Nl<|Ps<|Rt<|PQ.retCT rfl rfl rfl in_ Tryz.isAgg97 (by exact Tryz.sizeOf97) ?_
      have e8:atD v.D line=some ⟨line,true,(decF (linesL v.D line (spanF (c:Nat)))).getD blk0⟩:=by
       unfold atD;rw[hh];refine(if_neg om_).trans ?_
       unfold lookF;rw[if_pos h45]
       cases hdf:decF (linesL v.D line (spanF (c:Nat))) with
       |none=>rw[hdf] at h69;cases h69
       |some b=>rfl
      rw[e8]
      exact fi_ () trivial
     ·have h69:(decF (linesL v.D line (spanF (c:Nat)))).isSome=false:=h69
      refine Sk<|Ps<|Sq<|Rg<|Lv (Lw (l:=fdC ⟨line,false,⟨(c:Nat),(kd:Nat),0,0,0,[],[]⟩⟩))<|LeN (StW (cs:=fdC ⟨line,false,⟨(c:Nat),(kd:Nat),0,0,0,[],[]⟩⟩)) fun _ _=>Lv Av<|Nl<|Ps<|Rt<|PQ.retCT rfl rfl rfl in_ Tryz.isAgg97 (by exact Tryz.sizeOf97) ?_
      have e8:atD v.D line=some ⟨line,false,⟨(c:Nat),(kd:Nat),0,0,0,[],[]⟩⟩:=by
       unfold atD;rw[hh];refine(if_neg om_).trans ?_
       unfold lookF;rw[if_pos h45]
       cases hdf:decF (linesL v.D line (spanF (c:Nat))) with
       |none=>rfl
       |some b=>rw[hdf] at h69;cases h69
      rw[e8]
      exact fi_ () trivial
end
section
attribute [local irreducible] V.CW V.LW V.QW V.RW V.PQ V.Val V.Eff V.Qcall
open V (str byC ownV ownG ownS ownOk)
theorem places43:∀w,((Array.mapM (fun(f:Field)=>do pure (f.offset,← sizeOf f.type)) (Tryz.prog.fieldsOf 43):Sem (Array (Nat×Nat)))).run Tryz.prog w= .ok [(0,1),(1,1),(2,1),(3,1),(4,1),(5,1),(6,1),(7,1),(8,1)].toArray w:=by
 intro w;kernel_rfl
instance:Und Tryz.prog 41 (dOf Tryz.underlying41):=⟨Tryz.underlying41⟩
instance:Siz Tryz.prog 41 (kOf Tryz.sizeOf41):=⟨Tryz.sizeOf41⟩
instance:AgF Tryz.prog 41:=⟨Tryz.isAgg41⟩
instance:Und Tryz.prog 43 (dOf Tryz.underlying43):=⟨Tryz.underlying43⟩
instance:Zer Tryz.prog 43 (zOf Tryz.zeroValue43):=⟨Tryz.zeroValue43⟩
instance:Plc Tryz.prog 43 (fOf Tryz.underlying43) (lOf (P:=Tryz.prog) places43):=⟨places43,Tryz.underlying43⟩
instance:Cal Tryz.prog 94:=⟨Tryz.call94⟩
instance:Cal Tryz.prog 163:=⟨Tryz.call163⟩
theorem own_fd {l:List Fnd}{y:V.OwnO}(hy:ownOk 9 l.length (l.flatMap fdC) y):∃(p:Option Addr) (c:Nat),ownV l.length y= .slice p l.length c∧∀{B:V.Base} {sg r:V.Sg} {w:World},Hp B sg w→Pick [ownG 97 (l.flatMap fdC) y] sg r→V.slAt w p 9 fdC l:=by
 obtain⟨p,c,h1,_,h2⟩:=own_slg (e:=97) fdC_len l y hy
 exact⟨p,c,h1,h2⟩
def rv3 (db:Nat)(th:Int)(c:RCo)(lo:V.OwnO)(ap:Option Addr):List Value:=[.pointer (some ⟨db,0,none⟩),.int .i64 th,.int .i64 c.ph,.int .u64 c.e,ownV c.l.length lo,.int .i64 c.nx,.int .i64 (c.dn:Nat),.bool c.dc,.pointer ap]
abbrev rv3S (rb db:Nat)(th:Int)(c:RCo)(lo:V.OwnO)(ap:Option Addr):Sg:=[[(rb,.cells (rv3 db th c lo ap).toArray 43 (0,0))],ownG 97 (c.l.flatMap fdC) lo]
theorem rnew22_g (db:Nat)(th:Int)(h:1≤th∧th≤4):Mz Tryz.prog 10 [.pointer (some ⟨db,0,none⟩),.int .i64 th] (fun rb:Nat=>True) (fun rb=> .tuple #[.pointer (some ⟨rb,0,none⟩),.int .i64 0]) (fun rb=>rv3S rb db th rco0 none none):=by
 intro w
 refine Cb_ Tryz.func10 rfl Tryz.ntmps10<|pA_ 21 ?_
 refine LW.re 9 (.bool false) rfl (by congr 1;simp;omega)<|pA_ 3 ?_
 refine LW.re 12 (.bool false) rfl (by congr 1;simp;omega)<|pA_ 10 ?_
 refine Lv (Bd (rv3 db th rco0 none none))<|Le XA fun b17 _=>pA_ 6 ?_
 intro w' hw;exact⟨b17,trivial,rfl,hw.perm (.refl _)⟩
theorem rnew22_no (db:Nat)(th:Int)(h:th<1∨4<th):Rz Tryz.prog 10 [.pointer (some ⟨db,0,none⟩),.int .i64 th] (.tuple #[.pointer none,.int .i64 2]):=by
 intro w
 refine Cb_ Tryz.func10 rfl Tryz.ntmps10<|pA_ 22 ?_
 refine LW.split (d:=10) rfl (fun h10=>?_) (fun h10=>?_)
 ·replace h10:=bT h10
  refine pA_ 15 ?_
  intro w' hw;exact⟨by rfl,hw.below⟩
 ·replace h10:=bF h10
  refine pA_ 5 ?_
  refine CW.cond rfl (fun h13=>?_) (fun h13=>?_)
  ·replace h13:=bT h13
   refine pA_ 9 ?_
   intro w' hw;exact⟨by rfl,hw.below⟩
  ·exact absurd (bF h13) (by first|(simp;done)|omega)
theorem rbroken_g (rb db:Nat)(th:Int)(c:RCo)(lo:V.OwnO)(ap:Option Addr)(e0:Int):Mo Tryz.prog 35 [.pointer (some ⟨rb,0,none⟩),.int .i64 e0] [[(rb,.cells (rv3 db th c lo ap).toArray 43 (0,0))]] (fun _u:Unit=>True) (fun _=> .int .i64 e0) (fun _=>[[(rb,.cells (rv3 db th {c with ph:=7} lo ap).toArray 43 (0,0))]]):=by
 intro w hs
 refine Ca_ Tryz.func35 rfl Tryz.ntmps35 hs<|pA_ 10 ?_
 refine LeN StS fun _ _=>pA_ 10 ?_
 intro w' hw;exact⟨(),trivial,rfl,hw⟩
theorem rkept_c (l:List Fnd)(p:Option Addr)(cp:Nat)(hl:l.length≤100000)(hri:rising l)(e0:Int)(hkd:kindOk e0 l)(i:Nat)(x:Fnd)(hx:l[i]? =some x)(w:World)(h:V.slAt w p 9 fdC l):Calls Tryz.prog 93 [.slice p l.length cp,.int .i64 (i:Nat),.int .u64 e0].toArray w fun e w'=>e= .returned (.bool (keepF e0 l x))∧Below w.heap.size w w':=by
 have hi:=(List.getElem?_eq_some_iff.1 hx).1
 obtain⟨bb1,o1,x2,rfl,hb1,hx2,hr1⟩:=V.slAt_at h rfl (k:=i) hi
 have hkr:=keep_ref hri hkd hx
 refine Cb_ Tryz.func93 rfl Tryz.ntmps93<|pA_ 9 ?_
 refine Lv (Val.indexAddrN (i:=i) rfl rfl Tryz.underlying40 Tryz.sizeOf97 om_)<|Lv (Val.loadOA (cs:=fdC x) rfl Tryz.isAgg97 hb1 (by simp[ids]) (hr1 i _ hx) Tryz.sizeOf97)<|Le AA fun b7 _=>LeN (StW (cs:=fdC x)) fun _ _=>pA_ 5 ?_
 refine Lv (Lw (l:=fdC x))<|Lv Mv<|Le (Cz_ (rsound_c x e0)) fun _ _=>Lv Nt<|Lv Mv ?_
 refine LW.split (d:=18) rfl (fun h18=>?_) (fun h18=>?_)
 ·replace h18:=bT h18
  have h18:soundF e0 x=false:=by simpa using h18
  refine pA_ 15 ?_
  have e8:keepF e0 l x=false:=by
   rw[hkr];simp[h18]
  rw[e8]
  exact fb_
 ·replace h18:=bF h18
  have h18:soundF e0 x=true:=by simpa using h18
  refine Lv (Lw (l:=fdC x))<|Le (Cz_ (rpay_c x)) fun _ _=>pA_ 4 ?_
  refine Cd_ rfl (fun h22=>?_) fun h22=>?_
  ·have h22:payR x=false:=by simpa using h22
   refine pA_ 8 ?_
   have e8:keepF e0 l x=false:=by
    rw[hkr];simp[h22]
   rw[e8]
   exact fb_
  ·have h22:payR x=true:=by simpa using h22
   refine pA_ 9 ?_
   refine loopA (γ:=Nat) (fun k=>[(0,.slice (some ⟨bb1,o1,none⟩) l.length cp),(1,.int .i64 (i:Nat)),(2,.int .u64 e0),(7,.pointer (some ⟨b7,0,none⟩)),(8,.int .i64 (k:Nat))]) (fun _=>[[(b7,.cells (fdC x).toArray 97 (0,0))]]) (fun k=>k≤l.length∧∀j z,j<k→l[j]? =some z→agR e0 x z i j=false) (fun k=>l.length-k) (0) ⟨Nat.zero_le _,fun j z hj _=>absurd hj (Nat.not_lt_zero j)⟩ fun k=>?_
   rintro⟨hk1,hk2⟩
   refine pA_ 9 ?_
   refine Cd_ rfl (fun h26=>?_) fun h26=>?_
   ·have hk9:k<l.length:=by omega
    obtain⟨y,hy⟩:∃y,l[k]? =some y:=⟨l[k]'hk9,by simp⟩
    refine pA_ 8 ?_
    refine Lv (Val.indexAddrN (i:=k) rfl rfl Tryz.underlying40 Tryz.sizeOf97 om_)<|Lv (Val.loadOA (cs:=fdC y) rfl Tryz.isAgg97 hb1 (by simp[ids]) (hr1 k _ hy) Tryz.sizeOf97)<|Le AA fun b9 _=>LeN (StW (cs:=fdC y)) fun _ _=>pA_ 9 ?_
    refine LW.split (d:=36) rfl (fun h36=>?_) (fun h36=>?_)
    ·replace h36:=bT h36
     have h36:k=i:=by omega
     refine pA_ 26 ?_
     refine PQ.round (k+1) ⟨by omega,fun j z hj hz=>by
      rcases Nat.lt_succ_iff_lt_or_eq.1 hj with hj|hj
      ·exact hk2 j z hj hz
      ·rw[hj] at hz⊢
       obtain rfl:y=z:=Option.some.inj (hy.symm.trans hz)
       unfold agR;simp[show k=i by omega]⟩ om_ (by repeat(first|exact trivial|refine⟨rfl,?_⟩)) pk_
    ·replace h36:=bF h36
     have h36:¬k=i:=by omega
     refine Lv (Lw (l:=fdC y))<|Lv Mv<|Le (Cz_ (rsound_c y e0)) fun _ _=>pA_ 3 ?_
     refine LW.split (d:=42) rfl (fun h42=>?_) (fun h42=>?_)
     ·replace h42:=bT h42
      have h42:soundF e0 y=false:=by simpa using h42
      refine pA_ 20 ?_
      refine PQ.round (k+1) ⟨by omega,fun j z hj hz=>by
       rcases Nat.lt_succ_iff_lt_or_eq.1 hj with hj|hj
       ·exact hk2 j z hj hz
       ·rw[hj] at hz⊢
        obtain rfl:y=z:=Option.some.inj (hy.symm.trans hz)
        unfold agR;simp[h42]⟩ om_ (by repeat(first|exact trivial|refine⟨rfl,?_⟩)) pk_
     ·replace h42:=bF h42
      have h42:soundF e0 y=true:=by simpa using h42
      refine Lv (Fa 2 53)<|Lv (Fa 2 22)<|Lv (Ld (v:= .int .u64 y.b.id))<|Lv (Fa 2 53)<|Lv (Fa 2 22)<|Lv (Ld (v:= .int .u64 x.b.id))<|pA_ 4 ?_
      refine Cd_ rfl (fun h50=>?_) fun h50=>?_
      ·have h50:¬y.b.id=x.b.id:=h50
       refine pA_ 9 ?_
       refine PQ.round (k+1) ⟨by omega,fun j z hj hz=>by
        rcases Nat.lt_succ_iff_lt_or_eq.1 hj with hj|hj
        ·exact hk2 j z hj hz
        ·rw[hj] at hz⊢
         obtain rfl:y=z:=Option.some.inj (hy.symm.trans hz)
         unfold agR;simp[h50]⟩ om_ (by repeat(first|exact trivial|refine⟨rfl,?_⟩)) pk_
      ·have h50:y.b.id=x.b.id:=by omega
       refine pA_ 6 ?_
       refine Lv (Ld (v:= .int .u64 y.b.ver))<|Lv (Fa 2 53)<|Lv (Fa 3 22)<|Lv (Ld (v:= .int .u64 x.b.ver))<|Lv Cm<|Lv Mv ?_
       refine LW.split (d:=58) rfl (fun h58=>?_) (fun h58=>?_)
       ·replace h58:=bT h58
        have h58:x.b.ver<y.b.ver:=h58
        refine pA_ 32 ?_
        have e8:keepF e0 l x=false:=by
         rw[hkr,Bool.and_eq_false_iff];right
         refine List.all_eq_false.2 ⟨k,List.mem_range.2 hk9,?_⟩
         rw[hy]
         simp only[Option.map_some,Option.getD_some,Bool.not_not,Bool.not_eq_true,Bool.not_eq_false]
         unfold agR;simp[h36,h42,h50,h58]
        rw[e8]
        exact fb_
       ·replace h58:=bF h58
        have h58:¬x.b.ver<y.b.ver:=by omega
        refine Lv (Lw (l:=fdC y))<|Le (Cz_ (rpay_c y)) fun _ _=>Lv Mv ?_
        refine LW.split (d:=61) rfl (fun h61=>?_) (fun h61=>?_)
        ·replace h61:=bT h61
         have h61:payR y=true:=h61
         refine Lv (Fa 2 53)<|Lv (Fa 3 22)<|Lv (Ld (v:= .int .u64 y.b.ver))<|Lv (Fa 2 53)<|Lv (Fa 3 22)<|Lv (Ld (v:= .int .u64 x.b.ver))<|pA_ 3 ?_
         refine LW.split (d:=70) rfl (fun h70=>?_) (fun h70=>?_)
         ·replace h70:=bT h70
          have h70:y.b.ver=x.b.ver:=h70
          refine pA_ 7 ?_
          refine Cd_ rfl (fun h75=>?_) fun h75=>?_
          ·refine pA_ 12 ?_
           have e8:keepF e0 l x=false:=by
            rw[hkr,Bool.and_eq_false_iff];right
            refine List.all_eq_false.2 ⟨k,List.mem_range.2 hk9,?_⟩
            rw[hy]
            simp only[Option.map_some,Option.getD_some,Bool.not_not,Bool.not_eq_true,Bool.not_eq_false]
            unfold agR;simp[h36,h42,h50,h61,h70,show k<i by omega]
           rw[e8]
           exact fb_
          ·refine pA_ 8 ?_
           refine PQ.round (k+1) ⟨by omega,fun j z hj hz=>by
            rcases Nat.lt_succ_iff_lt_or_eq.1 hj with hj|hj
            ·exact hk2 j z hj hz
            ·rw[hj] at hz⊢
             obtain rfl:y=z:=Option.some.inj (hy.symm.trans hz)
             unfold agR;simp[h58,show ¬k<i by omega]⟩ om_ (by repeat(first|exact trivial|refine⟨rfl,?_⟩)) pk_
         ·replace h70:=bF h70
          have h70:¬y.b.ver=x.b.ver:=by omega
          refine pA_ 16 ?_
          refine PQ.round (k+1) ⟨by omega,fun j z hj hz=>by
           rcases Nat.lt_succ_iff_lt_or_eq.1 hj with hj|hj
           ·exact hk2 j z hj hz
           ·rw[hj] at hz⊢
            obtain rfl:y=z:=Option.some.inj (hy.symm.trans hz)
            unfold agR;simp[h58,h70]⟩ om_ (by repeat(first|exact trivial|refine⟨rfl,?_⟩)) pk_
        ·replace h61:=bF h61
         have h61:payR y=false:=h61
         refine pA_ 25 ?_
         refine PQ.round (k+1) ⟨by omega,fun j z hj hz=>by
          rcases Nat.lt_succ_iff_lt_or_eq.1 hj with hj|hj
          ·exact hk2 j z hj hz
          ·rw[hj] at hz⊢
           obtain rfl:y=z:=Option.some.inj (hy.symm.trans hz)
           unfold agR;simp[h58,h61]⟩ om_ (by repeat(first|exact trivial|refine⟨rfl,?_⟩)) pk_
   ·have hk9:l.length≤k:=by omega
    refine pA_ 12 ?_
    have e8:keepF e0 l x=true:=by
     rw[hkr,Bool.and_eq_true,Bool.and_eq_true]
     refine⟨⟨h18,h22⟩,List.all_eq_true.2 fun j hj=>?_⟩
     cases hz:l[j]? with
     |none=>rfl
     |some z=>
      have h7:=hk2 j z (by have:=(List.getElem?_eq_some_iff.1 hz).1;omega) hz
      simp[h7]
    rw[e8]
    exact fb_
end
section
attribute [local irreducible] V.CW V.LW V.QW V.RW V.PQ V.Val V.Eff V.Qcall
open V (str byC ownV ownG ownS ownOk)
instance:Cal Tryz.prog 93:=⟨Tryz.call93⟩
theorem filt_step {α:Type}{l:List α}{k:Nat}{y:α}(hy:l[k]? =some y)(q:α→Bool):(l.take (k+1)).filter q=(l.take k).filter q++(if q y=true then[y] else[]):=by
 rw[List.take_add_one,hy,List.filter_append]
 congr 1
 show List.filter q [y]=_
 rw[List.filter_cons,List.filter_nil]
theorem rall_g (rb db:Nat)(th:Int)(c:RCo)(lo:V.OwnO)(ap:Option Addr)(hl:c.l.length≤1000)(ho:ownOk 9 c.l.length (c.l.flatMap fdC) lo)(hri:rising c.l)(hkd:kindOk c.e c.l):Mo Tryz.prog 40 [.pointer (some ⟨rb,0,none⟩)] (rv3S rb db th c lo ap) (fun o:V.OwnO=>ownOk 9 (c.l.filter (keepF c.e c.l)).length ((c.l.filter (keepF c.e c.l)).flatMap fdC) o) (fun o=>ownV (c.l.filter (keepF c.e c.l)).length o) (fun o=>ownG 97 ((c.l.filter (keepF c.e c.l)).flatMap fdC) o::rv3S rb db th c lo ap):=by
 intro w hs
 refine Ca_ Tryz.func40 rfl Tryz.ntmps40 hs<|pA_ 17 ?_
 refine V.CW.addOwn 97<|loopA (γ:=Nat×V.OwnO) (fun k=>[(0,.pointer (some ⟨rb,0,none⟩)),(3,ownV ((c.l.take k.1).filter (keepF c.e c.l)).length k.2),(4,.int .i64 (k.1:Nat))]) (fun k=>ownG 97 (((c.l.take k.1).filter (keepF c.e c.l)).flatMap fdC) k.2::rv3S rb db th c lo ap) (fun k=>k.1≤c.l.length∧ownOk 9 ((c.l.take k.1).filter (keepF c.e c.l)).length (((c.l.take k.1).filter (keepF c.e c.l)).flatMap fdC) k.2) (fun k=>c.l.length-k.1) ((0,none)) ⟨Nat.zero_le _,rfl,rfl⟩ fun k=>?_
 rintro⟨hk1,hk2⟩
 refine pA_ 7 ?_
 refine Lv (Ld (v:=ownV c.l.length lo))<|Lv (Val.lenOwn rfl Tryz.underlying40 ho)<|pA_ 3 ?_
 refine Cd_ rfl (fun h11=>?_) fun h11=>?_
 ·have hk9:k.1<c.l.length:=by omega
  obtain⟨g,r,cp,rfl⟩:=own_some ho om_
  obtain⟨pl,cl,hvl,hsl⟩:=own_fd ho
  obtain⟨y,hy⟩:∃y,c.l[k.1]? =some y:=⟨c.l[k.1]'hk9,by simp⟩
  have hst:=filt_step hy (keepF c.e c.l)
  have hle:((c.l.take k.1).filter (keepF c.e c.l)).length≤k.1:=Nat.le_trans (List.length_filter_le _ _) (by rw[List.length_take];omega)
  refine pA_ 5 ?_
  refine Qt<|pA_ 3 ?_
  refine Qv (Ld (v:=ownV c.l.length (some (g,r,cp))))<|QW.re 17 (.slice pl c.l.length cl) rfl hvl<|pA_ 4 ?_
  refine Qv (Ld (v:= .int .u64 c.e))<|Qc (QV fun w hw=>rkept_c c.l pl cl om_ hri c.e hkd k.1 y hy w (hsl hw pk_))<|Ql<|Ps ?_
  refine Cd_ rfl (fun h23=>?_) fun h23=>?_
  ·have hq:keepF c.e c.l y=true:=h23
   rw[if_pos hq] at hst
   have ea:((c.l.take (k.1+1)).filter (keepF c.e c.l)).flatMap fdC=((c.l.take k.1).filter (keepF c.e c.l)).flatMap fdC++fdC y:=by rw[hst];exact List.flatMap_append
   have el:((c.l.take (k.1+1)).filter (keepF c.e c.l)).length=((c.l.take k.1).filter (keepF c.e c.l)).length+1:=by rw[hst];simp
   refine Rg<|Lv Mv<|Lv Mv<|Lv Nz<|Lv (Fa 4 40)<|Lv (Ld (v:=ownV c.l.length (some (g,r,cp))))<|Lv Mv<|Lv (Val.indexAddrN (i:=k.1) rfl rfl Tryz.underlying40 Tryz.sizeOf97 om_)<|LW.re 30 (.pointer (some ⟨g,k.1*9,none⟩)) rfl (by simp)<|Lv (La (fdC y) (r:=(own_el fdC_len hy r).choose) (hl:=(own_el fdC_len hy r).choose_spec))<|Le (Eff.buildSlice (rfl) [_,_,_,_,_,_,_,_,_] Tryz.underlying40 Tryz.sizeOf97 (by exact Tryz.zeroValue97) rfl rfl rfl rfl (by rfl)) fun b32 _=>Le (Eff.appendAny (fdC y) (sz:=9) (bytes:=88) (z:= .agg #[.int .i64 0,.bool false,.int .i64 0,.int .i64 0,.int .u64 0,.int .u64 0,.int .u64 0,.string ⟨#[]⟩,.string ⟨#[]⟩]) (xs:=((c.l.take k.1).filter (keepF c.e c.l)).flatMap fdC) (m0:=((c.l.take k.1).filter (keepF c.e c.l)).length) (o:=k.2) (m:=1) (pk:=[ownG 97 (((c.l.take k.1).filter (keepF c.e c.l)).flatMap fdC) (k.2)]) rfl rfl Tryz.underlying40 kr_ rfl om_ pk_ (by simp) hk2 (by rfl) (fun hm0=>⟨b32,0,rfl,fun w hw=>V.range_of_block (o:=0) (cs:=fdC y) (r:=[]) (hw.own _ (show InS (b32,.cells (fdC y).toArray 97 (0,0)) _ from in_).mem) rfl⟩) (by rfl) om_ om_) fun oY hoY=>?_
   rw[← ea,← el] at hoY⊢
   refine pA_ 9 ?_
   exact roundA ((k.1+1,oY)) ⟨by simp only;omega,hoY⟩ (by simp only;omega)
  ·have hq:keepF c.e c.l y=false:=h23
   rw[if_neg (by rw[hq];simp),List.append_nil] at hst
   refine pA_ 8 ?_
   rw[← hst]
   exact roundA ((k.1+1,k.2)) ⟨by simp only;omega,by simp only;rw[hst];exact hk2⟩ (by simp only;omega)
 ·have hk9:c.l.length≤k.1:=by omega
  refine pA_ 13 ?_
  rw[List.take_of_length_le hk9] at hk2⊢
  exact fi_ k.2 hk2
theorem rscrubT_g (rb db:Nat)(th:Int)(c:RCo)(lo:V.OwnO)(ap:Option Addr)(hl:c.l.length≤1000)(ho:ownOk 9 c.l.length (c.l.flatMap fdC) lo)(hri:rising c.l)(hkd:kindOk c.e c.l):Mo Tryz.prog 41 [.pointer (some ⟨rb,0,none⟩),.bool true] (rv3S rb db th c lo ap) (fun o:V.OwnO=>ownOk 9 (c.l.filter (antiF c.e)).length ((c.l.filter (antiF c.e)).flatMap fdC) o) (fun o=>ownV (c.l.filter (antiF c.e)).length o) (fun o=>ownG 97 ((c.l.filter (antiF c.e)).flatMap fdC) o::rv3S rb db th c lo ap):=by
 intro w hs
 refine Ca_ Tryz.func41 rfl Tryz.ntmps41 hs<|pA_ 17 ?_
 refine V.CW.addOwn 97<|loopA (γ:=Nat×V.OwnO) (fun k=>[(0,.pointer (some ⟨rb,0,none⟩)),(1,.bool true),(5,ownV ((c.l.take k.1).filter (antiF c.e)).length k.2),(6,.int .i64 (k.1:Nat))]) (fun k=>ownG 97 (((c.l.take k.1).filter (antiF c.e)).flatMap fdC) k.2::rv3S rb db th c lo ap) (fun k=>k.1≤c.l.length∧ownOk 9 ((c.l.take k.1).filter (antiF c.e)).length (((c.l.take k.1).filter (antiF c.e)).flatMap fdC) k.2) (fun k=>c.l.length-k.1) ((0,none)) ⟨Nat.zero_le _,rfl,rfl⟩ fun k=>?_
 rintro⟨hk1,hk2⟩
 refine pA_ 7 ?_
 refine Lv (Ld (v:=ownV c.l.length lo))<|Lv (Val.lenOwn rfl Tryz.underlying40 ho)<|pA_ 3 ?_
 refine Cd_ rfl (fun h14=>?_) fun h14=>?_
 ·have hk9:k.1<c.l.length:=by omega
  obtain⟨g,r,cp,rfl⟩:=own_some ho om_
  obtain⟨pl,cl,hvl,hsl⟩:=own_fd ho
  obtain⟨y,hy⟩:∃y,c.l[k.1]? =some y:=⟨c.l[k.1]'hk9,by simp⟩
  have hst:=filt_step hy (antiF c.e)
  have hle:((c.l.take k.1).filter (antiF c.e)).length≤k.1:=Nat.le_trans (List.length_filter_le _ _) (by rw[List.length_take];omega)
  refine pA_ 5 ?_
  refine Qt<|pA_ 3 ?_
  refine Qv (Ld (v:=ownV c.l.length (some (g,r,cp))))<|Qv Mv<|Qv (Val.indexAddrN (i:=k.1) rfl rfl Tryz.underlying40 Tryz.sizeOf97 om_)<|QW.re 22 (.pointer (some ⟨g,k.1*9,none⟩)) rfl (by simp)<|Qv (La (fdC y) (r:=(own_el fdC_len hy r).choose) (hl:=(own_el fdC_len hy r).choose_spec))<|pA_ 3 ?_
  refine Qv (Ld (v:= .int .u64 c.e))<|Qc (Qz_ (rsound_c y c.e))<|Qv Mv ?_
  refine QW.split (d:=29) rfl (fun h29=>?_) (fun h29=>?_)
  ·replace h29:=bT h29
   have h29:soundF c.e y=true:=h29
   refine pA_ 3 ?_
   refine Qv (Ld (v:=ownV c.l.length (some (g,r,cp))))<|Qv Mv<|Qv (Val.indexAddrN (i:=k.1) rfl rfl Tryz.underlying40 Tryz.sizeOf97 om_)<|QW.re 35 (.pointer (some ⟨g,k.1*9,none⟩)) rfl (by simp)<|Qv (Fa 2 53)<|Qv (Fa 1 3)<|QW.re 37 (.pointer (some ⟨g,k.1*9+3,none⟩)) rfl (by simp)<|Qv (Ld (v:= .int .i64 y.b.kind) (hl:=own_cell fdC_len (j:=3) hy rfl r))<|Qv Cm<|Qv Pt<|QW.re 40 (.bool (antiF c.e y)) rfl (by unfold antiF;rw[h29];rfl)<|pA_ 4 ?_
   refine Qt<|Qv Mv<|Qv Mv ?_
   refine QW.split (d:=42) rfl (fun h42=>?_) (fun h42=>?_)
   ·replace h42:=bT h42
    have hq:antiF c.e y=true:=h42
    rw[if_pos hq] at hst
    have ea:((c.l.take (k.1+1)).filter (antiF c.e)).flatMap fdC=((c.l.take k.1).filter (antiF c.e)).flatMap fdC++fdC y:=by rw[hst];exact List.flatMap_append
    have el:((c.l.take (k.1+1)).filter (antiF c.e)).length=((c.l.take k.1).filter (antiF c.e)).length+1:=by rw[hst];simp
    refine Qv Mv<|Qv Pt<|Qv Mv<|Qp<|Qp<|Qp<|Qp<|Qp<|Qp<|Qp<|Qp<|Qp<|Qp<|Qp<|Qp<|Qp<|Qp<|Qp<|Qp<|Qp<|Qp<|Qp<|Qv Pt<|Ql<|Ps<|Ct<|Rg<|Lv Mv<|Lv Mv<|Lv Nz<|Lv (Fa 4 40)<|Lv (Ld (v:=ownV c.l.length (some (g,r,cp))))<|Lv Mv<|Lv (Val.indexAddrN (i:=k.1) rfl rfl Tryz.underlying40 Tryz.sizeOf97 om_)<|LW.re 72 (.pointer (some ⟨g,k.1*9,none⟩)) rfl (by simp)<|Lv (La (fdC y) (r:=(own_el fdC_len hy r).choose) (hl:=(own_el fdC_len hy r).choose_spec))<|Le (Eff.buildSlice (rfl) [_,_,_,_,_,_,_,_,_] Tryz.underlying40 Tryz.sizeOf97 (by exact Tryz.zeroValue97) rfl rfl rfl rfl (by rfl)) fun b74 _=>Le (Eff.appendAny (fdC y) (sz:=9) (bytes:=88) (z:= .agg #[.int .i64 0,.bool false,.int .i64 0,.int .i64 0,.int .u64 0,.int .u64 0,.int .u64 0,.string ⟨#[]⟩,.string ⟨#[]⟩]) (xs:=((c.l.take k.1).filter (antiF c.e)).flatMap fdC) (m0:=((c.l.take k.1).filter (antiF c.e)).length) (o:=k.2) (m:=1) (pk:=[ownG 97 (((c.l.take k.1).filter (antiF c.e)).flatMap fdC) (k.2)]) rfl rfl Tryz.underlying40 kr_ rfl om_ pk_ (by simp) hk2 (by rfl) (fun hm0=>⟨b74,0,rfl,fun w hw=>V.range_of_block (o:=0) (cs:=fdC y) (r:=[]) (hw.own _ (show InS (b74,.cells (fdC y).toArray 97 (0,0)) _ from in_).mem) rfl⟩) (by rfl) om_ om_) fun oY hoY=>?_
    rw[← ea,← el] at hoY⊢
    refine pA_ 9 ?_
    exact roundA ((k.1+1,oY)) ⟨by simp only;omega,hoY⟩ (by simp only;omega)
   ·replace h42:=bF h42
    have hq:antiF c.e y=false:=h42
    rw[if_neg (by rw[hq];simp),List.append_nil] at hst
    refine pA_ 6 ?_
    refine QW.split (d:=48) rfl (fun h48=>?_) (fun h48=>?_)
    ·replace h48:=bT h48
     refine pA_ 28 ?_
     rw[← hst]
     exact roundA ((k.1+1,k.2)) ⟨by simp only;omega,by simp only;rw[hst];exact hk2⟩ (by simp only;omega)
    ·rw[hq] at h48;cases h48
  ·replace h29:=bF h29
   have h29:soundF c.e y=false:=h29
   have h42:antiF c.e y=false:=by unfold antiF;rw[h29];rfl
   have hq:antiF c.e y=false:=h42
   rw[if_neg (by rw[hq];simp),List.append_nil] at hst
   refine pA_ 15 ?_
   refine Qt<|pA_ 36 ?_
   rw[← hst]
   exact roundA ((k.1+1,k.2)) ⟨by simp only;omega,by simp only;rw[hst];exact hk2⟩ (by simp only;omega)
 ·have hk9:c.l.length≤k.1:=by omega
  refine pA_ 13 ?_
  rw[List.take_of_length_le hk9] at hk2⊢
  exact fi_ k.2 hk2
theorem rscrubF_g (rb db:Nat)(th:Int)(c:RCo)(lo:V.OwnO)(ap:Option Addr)(hl:c.l.length≤1000)(ho:ownOk 9 c.l.length (c.l.flatMap fdC) lo)(hri:rising c.l)(hkd:kindOk c.e c.l):Mo Tryz.prog 41 [.pointer (some ⟨rb,0,none⟩),.bool false] (rv3S rb db th c lo ap) (fun o:V.OwnO=>ownOk 9 (c.l.filter (scrubF c.e c.l)).length ((c.l.filter (scrubF c.e c.l)).flatMap fdC) o) (fun o=>ownV (c.l.filter (scrubF c.e c.l)).length o) (fun o=>ownG 97 ((c.l.filter (scrubF c.e c.l)).flatMap fdC) o::rv3S rb db th c lo ap):=by
 intro w hs
 refine Ca_ Tryz.func41 rfl Tryz.ntmps41 hs<|pA_ 17 ?_
 refine V.CW.addOwn 97<|loopA (γ:=Nat×V.OwnO) (fun k=>[(0,.pointer (some ⟨rb,0,none⟩)),(1,.bool false),(5,ownV ((c.l.take k.1).filter (scrubF c.e c.l)).length k.2),(6,.int .i64 (k.1:Nat))]) (fun k=>ownG 97 (((c.l.take k.1).filter (scrubF c.e c.l)).flatMap fdC) k.2::rv3S rb db th c lo ap) (fun k=>k.1≤c.l.length∧ownOk 9 ((c.l.take k.1).filter (scrubF c.e c.l)).length (((c.l.take k.1).filter (scrubF c.e c.l)).flatMap fdC) k.2) (fun k=>c.l.length-k.1) ((0,none)) ⟨Nat.zero_le _,rfl,rfl⟩ fun k=>?_
 rintro⟨hk1,hk2⟩
 refine pA_ 7 ?_
 refine Lv (Ld (v:=ownV c.l.length lo))<|Lv (Val.lenOwn rfl Tryz.underlying40 ho)<|pA_ 3 ?_
 refine Cd_ rfl (fun h14=>?_) fun h14=>?_
 ·have hk9:k.1<c.l.length:=by omega
  obtain⟨g,r,cp,rfl⟩:=own_some ho om_
  obtain⟨pl,cl,hvl,hsl⟩:=own_fd ho
  obtain⟨y,hy⟩:∃y,c.l[k.1]? =some y:=⟨c.l[k.1]'hk9,by simp⟩
  have hst:=filt_step hy (scrubF c.e c.l)
  have hle:((c.l.take k.1).filter (scrubF c.e c.l)).length≤k.1:=Nat.le_trans (List.length_filter_le _ _) (by rw[List.length_take];omega)
  refine pA_ 5 ?_
  refine Qt<|pA_ 3 ?_
  refine Qv (Ld (v:=ownV c.l.length (some (g,r,cp))))<|Qv Mv<|Qv (Val.indexAddrN (i:=k.1) rfl rfl Tryz.underlying40 Tryz.sizeOf97 om_)<|QW.re 22 (.pointer (some ⟨g,k.1*9,none⟩)) rfl (by simp)<|Qv (La (fdC y) (r:=(own_el fdC_len hy r).choose) (hl:=(own_el fdC_len hy r).choose_spec))<|pA_ 3 ?_
  refine Qv (Ld (v:= .int .u64 c.e))<|Qc (Qz_ (rsound_c y c.e))<|Qv Mv ?_
  refine QW.split (d:=29) rfl (fun h29=>?_) (fun h29=>?_)
  ·replace h29:=bT h29
   have h29:soundF c.e y=true:=h29
   refine pA_ 3 ?_
   refine Qv (Ld (v:=ownV c.l.length (some (g,r,cp))))<|Qv Mv<|Qv (Val.indexAddrN (i:=k.1) rfl rfl Tryz.underlying40 Tryz.sizeOf97 om_)<|QW.re 35 (.pointer (some ⟨g,k.1*9,none⟩)) rfl (by simp)<|Qv (Fa 2 53)<|Qv (Fa 1 3)<|QW.re 37 (.pointer (some ⟨g,k.1*9+3,none⟩)) rfl (by simp)<|Qv (Ld (v:= .int .i64 y.b.kind) (hl:=own_cell fdC_len (j:=3) hy rfl r))<|Qv Cm<|Qv Pt<|QW.re 40 (.bool (antiF c.e y)) rfl (by unfold antiF;rw[h29];rfl)<|pA_ 4 ?_
   refine Qt<|Qv Mv<|Qv Mv ?_
   refine QW.split (d:=42) rfl (fun h42=>?_) (fun h42=>?_)
   ·replace h42:=bT h42
    have ha42:antiF c.e y=true:=h42
    have hq:scrubF c.e c.l y=false:=by unfold scrubF;rw[ha42];rfl
    rw[if_neg (by rw[hq];simp),List.append_nil] at hst
    refine pA_ 6 ?_
    refine QW.split (d:=48) rfl (fun h48=>?_) (fun h48=>?_)
    ·rw[ha42] at h48;cases h48
    ·replace h48:=bF h48
     refine pA_ 28 ?_
     rw[← hst]
     exact roundA ((k.1+1,k.2)) ⟨by simp only;omega,by simp only;rw[hst];exact hk2⟩ (by simp only;omega)
   ·replace h42:=bF h42
    have h42:antiF c.e y=false:=h42
    refine pA_ 6 ?_
    refine QW.split (d:=48) rfl (fun h48=>?_) (fun h48=>?_)
    ·replace h48:=bT h48
     refine pA_ 7 ?_
     refine Qv Ld<|QW.re 56 (.slice pl c.l.length cl) rfl hvl<|pA_ 4 ?_
     refine Qv (Ld (v:= .int .u64 c.e))<|Qc (QV fun w hw=>rkept_c c.l pl cl om_ hri c.e hkd k.1 y hy w (hsl hw pk_))<|pA_ 5 ?_
     refine Cd_ rfl (fun h65=>?_) fun h65=>?_
     ·have h65:keepF c.e c.l y=false:=by simpa using h65
      have hq:scrubF c.e c.l y=true:=by unfold scrubF;rw[h65,h42];rfl
      rw[if_pos hq] at hst
      have ea:((c.l.take (k.1+1)).filter (scrubF c.e c.l)).flatMap fdC=((c.l.take k.1).filter (scrubF c.e c.l)).flatMap fdC++fdC y:=by rw[hst];exact List.flatMap_append
      have el:((c.l.take (k.1+1)).filter (scrubF c.e c.l)).length=((c.l.take k.1).filter (scrubF c.e c.l)).length+1:=by rw[hst];simp
      refine Rg<|Lv Mv<|Lv Mv<|Lv Nz<|Lv (Fa 4 40)<|Lv (Ld (v:=ownV c.l.length (some (g,r,cp))))<|Lv Mv<|Lv (Val.indexAddrN (i:=k.1) rfl rfl Tryz.underlying40 Tryz.sizeOf97 om_)<|LW.re 72 (.pointer (some ⟨g,k.1*9,none⟩)) rfl (by simp)<|Lv (La (fdC y) (r:=(own_el fdC_len hy r).choose) (hl:=(own_el fdC_len hy r).choose_spec))<|Le (Eff.buildSlice (rfl) [_,_,_,_,_,_,_,_,_] Tryz.underlying40 Tryz.sizeOf97 (by exact Tryz.zeroValue97) rfl rfl rfl rfl (by rfl)) fun b74 _=>Le (Eff.appendAny (fdC y) (sz:=9) (bytes:=88) (z:= .agg #[.int .i64 0,.bool false,.int .i64 0,.int .i64 0,.int .u64 0,.int .u64 0,.int .u64 0,.string ⟨#[]⟩,.string ⟨#[]⟩]) (xs:=((c.l.take k.1).filter (scrubF c.e c.l)).flatMap fdC) (m0:=((c.l.take k.1).filter (scrubF c.e c.l)).length) (o:=k.2) (m:=1) (pk:=[ownG 97 (((c.l.take k.1).filter (scrubF c.e c.l)).flatMap fdC) (k.2)]) rfl rfl Tryz.underlying40 kr_ rfl om_ pk_ (by simp) hk2 (by rfl) (fun hm0=>⟨b74,0,rfl,fun w hw=>V.range_of_block (o:=0) (cs:=fdC y) (r:=[]) (hw.own _ (show InS (b74,.cells (fdC y).toArray 97 (0,0)) _ from in_).mem) rfl⟩) (by rfl) om_ om_) fun oY hoY=>?_
      rw[← ea,← el] at hoY⊢
      refine pA_ 9 ?_
      exact roundA ((k.1+1,oY)) ⟨by simp only;omega,hoY⟩ (by simp only;omega)
     ·have h65:keepF c.e c.l y=true:=by simpa using h65
      have hq:scrubF c.e c.l y=false:=by unfold scrubF;rw[h65];simp
      rw[if_neg (by rw[hq];simp),List.append_nil] at hst
      refine pA_ 8 ?_
      rw[← hst]
      exact roundA ((k.1+1,k.2)) ⟨by simp only;omega,by simp only;rw[hst];exact hk2⟩ (by simp only;omega)
    ·rw[h42] at h48;cases h48
  ·replace h29:=bF h29
   have h29:soundF c.e y=false:=h29
   have h42:antiF c.e y=false:=by unfold antiF;rw[h29];rfl
   refine pA_ 15 ?_
   refine Qt<|pA_ 15 ?_
   refine Qv Ld<|QW.re 56 (.slice pl c.l.length cl) rfl hvl<|pA_ 4 ?_
   refine Qv (Ld (v:= .int .u64 c.e))<|Qc (QV fun w hw=>rkept_c c.l pl cl om_ hri c.e hkd k.1 y hy w (hsl hw pk_))<|pA_ 5 ?_
   refine Cd_ rfl (fun h65=>?_) fun h65=>?_
   ·have h65:keepF c.e c.l y=false:=by simpa using h65
    have hq:scrubF c.e c.l y=true:=by unfold scrubF;rw[h65,h42];rfl
    rw[if_pos hq] at hst
    have ea:((c.l.take (k.1+1)).filter (scrubF c.e c.l)).flatMap fdC=((c.l.take k.1).filter (scrubF c.e c.l)).flatMap fdC++fdC y:=by rw[hst];exact List.flatMap_append
    have el:((c.l.take (k.1+1)).filter (scrubF c.e c.l)).length=((c.l.take k.1).filter (scrubF c.e c.l)).length+1:=by rw[hst];simp
    refine Rg<|Lv Mv<|Lv Mv<|Lv Nz<|Lv (Fa 4 40)<|Lv (Ld (v:=ownV c.l.length (some (g,r,cp))))<|Lv Mv<|Lv (Val.indexAddrN (i:=k.1) rfl rfl Tryz.underlying40 Tryz.sizeOf97 om_)<|LW.re 72 (.pointer (some ⟨g,k.1*9,none⟩)) rfl (by simp)<|Lv (La (fdC y) (r:=(own_el fdC_len hy r).choose) (hl:=(own_el fdC_len hy r).choose_spec))<|Le (Eff.buildSlice (rfl) [_,_,_,_,_,_,_,_,_] Tryz.underlying40 Tryz.sizeOf97 (by exact Tryz.zeroValue97) rfl rfl rfl rfl (by rfl)) fun b74 _=>Le (Eff.appendAny (fdC y) (sz:=9) (bytes:=88) (z:= .agg #[.int .i64 0,.bool false,.int .i64 0,.int .i64 0,.int .u64 0,.int .u64 0,.int .u64 0,.string ⟨#[]⟩,.string ⟨#[]⟩]) (xs:=((c.l.take k.1).filter (scrubF c.e c.l)).flatMap fdC) (m0:=((c.l.take k.1).filter (scrubF c.e c.l)).length) (o:=k.2) (m:=1) (pk:=[ownG 97 (((c.l.take k.1).filter (scrubF c.e c.l)).flatMap fdC) (k.2)]) rfl rfl Tryz.underlying40 kr_ rfl om_ pk_ (by simp) hk2 (by rfl) (fun hm0=>⟨b74,0,rfl,fun w hw=>V.range_of_block (o:=0) (cs:=fdC y) (r:=[]) (hw.own _ (show InS (b74,.cells (fdC y).toArray 97 (0,0)) _ from in_).mem) rfl⟩) (by rfl) om_ om_) fun oY hoY=>?_
    rw[← ea,← el] at hoY⊢
    refine pA_ 9 ?_
    exact roundA ((k.1+1,oY)) ⟨by simp only;omega,hoY⟩ (by simp only;omega)
   ·have h65:keepF c.e c.l y=true:=by simpa using h65
    have hq:scrubF c.e c.l y=false:=by unfold scrubF;rw[h65];simp
    rw[if_neg (by rw[hq];simp),List.append_nil] at hst
    refine pA_ 8 ?_
    rw[← hst]
    exact roundA ((k.1+1,k.2)) ⟨by simp only;omega,by simp only;rw[hst];exact hk2⟩ (by simp only;omega)
 ·have hk9:c.l.length≤k.1:=by omega
  refine pA_ 13 ?_
  rw[List.take_of_length_le hk9] at hk2⊢
  exact fi_ k.2 hk2
end
section
attribute [local irreducible] V.CW V.LW V.QW V.RW V.PQ V.Val V.Eff V.Qcall
open V (str byC ownV ownG ownS ownOk)
instance:Cal Tryz.prog 34:=⟨Tryz.call34⟩
instance:Cal Tryz.prog 35:=⟨Tryz.call35⟩
instance:Cal Tryz.prog 36:=⟨Tryz.call36⟩
instance:Cal Tryz.prog 38:=⟨Tryz.call38⟩
instance:Cal Tryz.prog 39:=⟨Tryz.call39⟩
instance:Cal Tryz.prog 40:=⟨Tryz.call40⟩
instance:Cal Tryz.prog 41:=⟨Tryz.call41⟩
instance:Cal Tryz.prog 42:=⟨Tryz.call42⟩
theorem own_fd2 {l:List Fnd}{y:V.OwnO}(hy:ownOk 9 l.length (l.flatMap fdC) y):∃(p:Option Addr) (c:Nat),ownV l.length y= .slice p l.length c∧(∀{B:V.Base} {sg r:V.Sg} {w:World},Hp B sg w→Pick [ownG 97 (l.flatMap fdC) y] sg r→V.slAt w p 9 fdC l)∧∀{B:V.Base} {sg r ss r2:V.Sg} {w:World},Hp B sg w→Pick ss sg r→Pick [ownG 97 (l.flatMap fdC) y] r r2→∀b o,p=some ⟨b,o,none⟩→b∉V.ids ss:=by
 obtain⟨p,c,h1,h2⟩:=own_fd hy
 refine⟨p,c,h1,h2,fun {B} {sg} {rr} {ss} {r2} {w} hw hp hp2 b o hb=>?_⟩
 rcases y with _|⟨g,r,cp⟩
 ·have h3:Value.slice none 0 0= .slice p l.length c:=h1
  injection h3 with h4
  rw[← h4] at hb;cases hb
 ·have h3:Value.slice (some ⟨g,0,none⟩) l.length cp= .slice p l.length c:=h1
  injection h3 with h4
  rw[← h4] at hb
  simp only[Option.some.injEq,Addr.mk.injEq] at hb
  obtain⟨rfl,_⟩:=hb
  have hw2:=hw.perm (sg':=ss++_) (by rw[List.flatten_append];exact hp.perm')
  have hpp:=hp2.perm'
  have hnd:=hw2.nd
  rw[List.flatten_append,List.map_append] at hnd
  intro hin
  refine(List.nodup_append.1 hnd).2.2 _ hin g ?_ rfl
  refine List.mem_map.2 ⟨(g,.cells (l.flatMap fdC++r).toArray 97 (0,0)),?_,rfl⟩
  exact hpp.symm.mem_iff.1 (by simp[V.ownG,V.ownS])
theorem own_by2 {T:TypeId}{l:List UInt8}{y:V.OwnO}(hy:ownOk 1 l.length (byC l) y):∃(p:Option Addr) (c:Nat),ownV l.length y= .slice p l.length c∧(∀{B:V.Base} {sg r:V.Sg} {w:World},Hp B sg w→Pick [ownG T (byC l) y] sg r→V.slAt w p 1 byE l)∧∀{B:V.Base} {sg r ss r2:V.Sg} {w:World},Hp B sg w→Pick ss sg r→Pick [ownG T (byC l) y] r r2→∀b o,p=some ⟨b,o,none⟩→b∉V.ids ss:=by
 obtain⟨p,c,h1,_,h2⟩:=own_srcT (T:=T) hy
 refine⟨p,c,h1,h2,fun {B} {sg} {rr} {ss} {r2} {w} hw hp hp2 b o hb=>?_⟩
 rcases y with _|⟨g,r,cp⟩
 ·have h3:Value.slice none 0 0= .slice p l.length c:=h1
  injection h3 with h4
  rw[← h4] at hb;cases hb
 ·have h3:Value.slice (some ⟨g,0,none⟩) l.length cp= .slice p l.length c:=h1
  injection h3 with h4
  rw[← h4] at hb
  simp only[Option.some.injEq,Addr.mk.injEq] at hb
  obtain⟨rfl,_⟩:=hb
  have hw2:=hw.perm (sg':=ss++_) (by rw[List.flatten_append];exact hp.perm')
  have hpp:=hp2.perm'
  have hnd:=hw2.nd
  rw[List.flatten_append,List.map_append] at hnd
  intro hin
  refine(List.nodup_append.1 hnd).2.2 _ hin g ?_ rfl
  refine List.mem_map.2 ⟨(g,.cells (byC l++r).toArray T (0,0)),?_,rfl⟩
  exact hpp.symm.mem_iff.1 (by simp[V.ownG,V.ownS])
theorem rdraft0_c (c:Int)(hc:spanF c=0):Mz Tryz.prog 42 [.int .i64 c] (fun o:V.OwnO=>ownOk 1 0 (byC []) o) (fun o=>ownV 0 o) (fun o=>[ownG 5 (byC []) o]):=by
 intro w
 refine Cb_ Tryz.func42 rfl Tryz.ntmps42<|pA_ 9 ?_
 refine Le (Cz_ (rspan_c c)) fun _ _=>Lv Cm<|LW.re 5 (.bool true) rfl (by congr 1;simp;omega)<|pA_ 11 ?_
 intro w' hw;exact⟨none,⟨rfl,rfl⟩,rfl,hw.perm (.refl _)⟩
theorem rdraftG_c (c:Int):Mz Tryz.prog 42 [.int .i64 c] (fun o:V.OwnO=>ownOk 1 (draftL c).length (byC (draftL c)) o) (fun o=>ownV (draftL c).length o) (fun o=>[ownG 5 (byC (draftL c)) o]):=by
 intro w
 by_cases hc:spanF c=0
 ·have e8:draftL c=[]:=by unfold draftL;rw[if_pos hc]
  rw[e8]
  exact rdraft0_c c hc w
 ·have e8:=draftL_len hc
  rw[e8]
  exact rdraft_c c hc w
theorem atD_sc (D:List Ce)(nx:Int):scN D (nx-2)=atD D nx:=by
 unfold scN atD
 rw[show(2:Int)+(nx-2)=nx by omega]
 cases headF (nowL D nx) with
 |none=>rfl
 |some y=>rfl
abbrev st3 (rb:Nat)(x:DvR)(v:Dev)(th:Nat)(c:RCo)(lo:V.OwnO)(ap:Option Addr):Sg:=[(rb,.cells (rv3 x.db (th:Nat) c lo ap).toArray 43 (0,0))]::ownG 97 (c.l.flatMap fdC) lo::rvS3 x v
theorem rst0_g (rb:Nat)(x:DvR)(v:Dev)(th:Nat)(c:RCo)(lo:V.OwnO)(ap:Option Addr)(hm:10≤v.D.length∧v.D.length≤258)(ho:ownOk 9 c.l.length (c.l.flatMap fdC) lo)(hp:c.ph=0):Mo Tryz.prog 13 [.pointer (some ⟨rb,0,none⟩)] (st3 rb x v th c lo ap) (fun lo':V.OwnO=>ownOk 9 (rstp v c).2.1.l.length ((rstp v c).2.1.l.flatMap fdC) lo') (fun _=> .int .i64 (rstp v c).2.2) (fun lo'=>st3 rb x (rstp v c).1 th (rstp v c).2.1 lo' ap):=by
 intro w hs
 refine Ca_ Tryz.func13 rfl Tryz.ntmps13 hs<|pA_ 11 ?_
 refine Lv Ld<|pA_ 6 ?_
 refine LW.re 18 (.bool true) rfl (by simp[hp])<|pA_ 9 ?_
 refine Lv Ld<|Le (Cm_ (refopen_g x v om_)) fun _ _=>pA_ 14 ?_
 refine Cd_ rfl (fun h28=>?_) fun h28=>?_
 ·have h28:(openF v.D).2≠0:=h28
  have e8:rstp v c=(v,{c with ph:=7},(openF v.D).2):=by unfold rstp;rw[if_pos hp,if_neg h28]
  refine pA_ 4 ?_
  refine Le (Cm_ (rbroken_g rb x.db (th:Nat) c lo ap ((openF v.D).2))) fun _ _=>pA_ 8 ?_
  rw[e8]
  exact fi_ lo ho
 ·have h28:(openF v.D).2=0:=h28
  have e8:rstp v c=(v,{c with e:=(openF v.D).1,ph:=1},0):=by unfold rstp;rw[if_pos hp,if_pos h28,h28]
  refine pA_ 8 ?_
  refine LeN StS fun _ _=>pA_ 6 ?_
  refine LeN StS fun _ _=>pA_ 10 ?_
  rw[e8]
  exact fi_ lo ho
theorem rst1_g (rb:Nat)(x:DvR)(v:Dev)(th:Nat)(c:RCo)(lo:V.OwnO)(ap:Option Addr)(hm:10≤v.D.length∧v.D.length≤258)(ho:ownOk 9 c.l.length (c.l.flatMap fdC) lo)(hl:c.l.length≤1000)(hp:c.ph=1)(hnx:0≤c.nx∧c.nx≤1000):Mo Tryz.prog 13 [.pointer (some ⟨rb,0,none⟩)] (st3 rb x v th c lo ap) (fun lo':V.OwnO=>ownOk 9 (rstp v c).2.1.l.length ((rstp v c).2.1.l.flatMap fdC) lo') (fun _=> .int .i64 (rstp v c).2.2) (fun lo'=>st3 rb x (rstp v c).1 th (rstp v c).2.1 lo' ap):=by
 intro w hs
 have hsl:=slabs_lt v.D.length
 have e9:(rstp v c)=(v,{c with l:=scFd v.D (c.nx-2) c.l,nx:=c.nx+1,ph:=if c.nx+1=2+8*slabsF v.D.length then 2 else c.ph},0):=by unfold rstp;rw[if_neg om_,if_pos hp,hp]
 rw[e9]
 refine Ca_ Tryz.func13 rfl Tryz.ntmps13 hs<|pA_ 11 ?_
 refine Lv Ld<|pA_ 6 ?_
 refine LW.re 18 (.bool false) rfl (by simp[hp])<|pA_ 7 ?_
 refine LW.re 40 (.bool true) rfl (by simp[hp])<|pA_ 5 ?_
 refine Dr ([[(rb,.cells (rv3 x.db (th:Nat) c lo ap).toArray 43 (0,0))]])<|pR_ [0,1,2] ?_
 refine Rv 3 rfl (Ld (v:= .pointer (some ⟨x.db,0,none⟩)))<|pR_ [4,5,6] ?_
 refine Rv 7 rfl (Ld (v:= .int .i64 c.nx))<|RW.any [8,12] kr_ (by simp) fun i hi=>?_
 simp only[List.mem_cons,List.not_mem_nil,or_false] at hi
 rcases hi with rfl|rfl
 ·refine Ro rfl (Cm_ (rat_g x v c.nx om_)) fun _ _=>pR_ [9,10,11] ?_
  refine Re 12 rfl AA fun b5 _=>ReN 13 rfl (StW (cs:=fdC ((atD v.D c.nx).getD fd0))) fun _ _=>Rv 14 rfl Av<|pA_ 8 ?_
  refine Cd_ rfl (fun h53=>?_) fun h53=>?_
  ·have h53:(atD v.D c.nx).isSome=true:=h53
   have esc:scFd v.D (c.nx-2) c.l=c.l++[((atD v.D c.nx).getD fd0)]:=by
    unfold scFd;rw[atD_sc]
    cases hz:atD v.D c.nx with
    |none=>rw[hz] at h53;cases h53
    |some z=>rfl
   refine Dr ([[(b5,.cells (fdC ((atD v.D c.nx).getD fd0)).toArray 97 (0,0))]])<|Rv 0 rfl Mv<|Rv 1 rfl Mv<|Rv 2 rfl Nz<|Rv 3 rfl (Fa 4 40)<|Rv 5 rfl (Lw (l:=fdC ((atD v.D c.nx).getD fd0)))<|V.RW.batchY [4,6] 6 60 [(4,58,_)] 4 rfl kr_ rfl rfl rfl rfl rfl (by simp) (by simp) ⟨_,rfl,rfl,rfl,Eff.buildSlice (rfl) [_,_,_,_,_,_,_,_,_] Tryz.underlying40 Tryz.sizeOf97 (by exact Tryz.zeroValue97) rfl rfl rfl rfl (by rfl)⟩ ⟨⟨_,rfl,rfl,rfl,Eff.ofVal (Ld (v:=ownV c.l.length lo))⟩,trivial⟩ (fun _ _=>⟨⟨_,rfl,rfl,rfl,Eff.ofVal (Ld (v:=ownV c.l.length lo))⟩,trivial⟩) ⟨_,pk_⟩ (fun _ _=>⟨_,pk_⟩) fun b60 _=>Re 7 rfl (Eff.appendAny (fdC ((atD v.D c.nx).getD fd0)) (sz:=9) (bytes:=88) (z:= .agg #[.int .i64 0,.bool false,.int .i64 0,.int .i64 0,.int .u64 0,.int .u64 0,.int .u64 0,.string ⟨#[]⟩,.string ⟨#[]⟩]) (xs:=c.l.flatMap fdC) (m0:=c.l.length) (o:=lo) (m:=1) (pk:=[ownG 97 (c.l.flatMap fdC) (lo)]) rfl rfl Tryz.underlying40 kr_ rfl om_ pk_ (by simp) ho (by rfl) (fun hm0=>⟨b60,0,rfl,fun w hw=>V.range_of_block (o:=0) (cs:=fdC ((atD v.D c.nx).getD fd0)) (r:=[]) (hw.own _ (show InS (b60,.cells (fdC ((atD v.D c.nx).getD fd0)).toArray 97 (0,0)) _ from in_).mem) rfl⟩) (by rfl) om_ om_) fun lo2 hlo2=>?_
   have ea:c.l.flatMap fdC++fdC ((atD v.D c.nx).getD fd0)=(c.l++[((atD v.D c.nx).getD fd0)]).flatMap fdC:=by rw[List.flatMap_append];simp
   have el:c.l.length+1=(c.l++[((atD v.D c.nx).getD fd0)]).length:=by simp
   rw[ea,el] at hlo2⊢
   have ho2:=hlo2
   refine pR_ [8,9] ?_
   refine ReN 10 rfl (StS (h1:=V.ownV_one _ _)) fun _ _=>pA_ 7 ?_
   refine Lv Ld<|pA_ 3 ?_
   refine LeN StS fun _ _=>pA_ 3 ?_
   refine Qt<|pA_ 3 ?_
   refine Qv Ld<|pA_ 3 ?_
   refine Qv (Ld (v:= .pointer (some ⟨x.db,0,none⟩)))<|Qv Nz<|Qv (Fa 0 100)<|Qv (Ld (v:= .slice (some ⟨x.cb,0,none⟩) v.D.length x.cap))<|Qv Ln<|Qc (Qz_ (rslabs_c v.D.length))<|pA_ 5 ?_
   refine Cd_ rfl (fun h86=>?_) fun h86=>?_
   ·have h86:c.nx+1=2+8*slabsF v.D.length:=h86
    refine pA_ 4 ?_
    refine LeN StS fun _ _=>pA_ 10 ?_
    rw[esc]
    intro w' hw;exact⟨lo2,ho2,rfl,by rw[if_pos h86];exact hw.pick pk_⟩
   ·have h86:¬c.nx+1=2+8*slabsF v.D.length:=h86
    refine pA_ 10 ?_
    rw[esc]
    intro w' hw;exact⟨lo2,ho2,rfl,by rw[if_neg h86];exact hw.pick pk_⟩
  ·have h53:(atD v.D c.nx).isSome=false:=h53
   have esc:scFd v.D (c.nx-2) c.l=c.l:=by
    unfold scFd;rw[atD_sc]
    cases hz:atD v.D c.nx with
    |none=>rfl
    |some z=>rw[hz] at h53;cases h53
   refine pA_ 7 ?_
   refine Lv Ld<|pA_ 3 ?_
   refine LeN StS fun _ _=>pA_ 3 ?_
   refine Qt<|pA_ 3 ?_
   refine Qv Ld<|pA_ 3 ?_
   refine Qv (Ld (v:= .pointer (some ⟨x.db,0,none⟩)))<|Qv Nz<|Qv (Fa 0 100)<|Qv (Ld (v:= .slice (some ⟨x.cb,0,none⟩) v.D.length x.cap))<|Qv Ln<|Qc (Qz_ (rslabs_c v.D.length))<|pA_ 5 ?_
   refine Cd_ rfl (fun h86=>?_) fun h86=>?_
   ·have h86:c.nx+1=2+8*slabsF v.D.length:=h86
    refine pA_ 4 ?_
    refine LeN StS fun _ _=>pA_ 10 ?_
    rw[esc]
    intro w' hw;exact⟨lo,ho,rfl,by rw[if_pos h86];exact hw.pick pk_⟩
   ·have h86:¬c.nx+1=2+8*slabsF v.D.length:=h86
    refine pA_ 10 ?_
    rw[esc]
    intro w' hw;exact⟨lo,ho,rfl,by rw[if_neg h86];exact hw.pick pk_⟩
 ·refine Ro rfl AA fun b5 _=>Re 8 rfl (Cm_ (rat_g x v c.nx om_)) fun _ _=>pR_ [9,10,11] ?_
  refine ReN 13 rfl (StW (cs:=fdC ((atD v.D c.nx).getD fd0))) fun _ _=>Rv 14 rfl Av<|pA_ 8 ?_
  refine Cd_ rfl (fun h53=>?_) fun h53=>?_
  ·have h53:(atD v.D c.nx).isSome=true:=h53
   have esc:scFd v.D (c.nx-2) c.l=c.l++[((atD v.D c.nx).getD fd0)]:=by
    unfold scFd;rw[atD_sc]
    cases hz:atD v.D c.nx with
    |none=>rw[hz] at h53;cases h53
    |some z=>rfl
   refine Dr ([[(b5,.cells (fdC ((atD v.D c.nx).getD fd0)).toArray 97 (0,0))]])<|Rv 0 rfl Mv<|Rv 1 rfl Mv<|Rv 2 rfl Nz<|Rv 3 rfl (Fa 4 40)<|Rv 5 rfl (Lw (l:=fdC ((atD v.D c.nx).getD fd0)))<|V.RW.batchY [4,6] 6 60 [(4,58,_)] 4 rfl kr_ rfl rfl rfl rfl rfl (by simp) (by simp) ⟨_,rfl,rfl,rfl,Eff.buildSlice (rfl) [_,_,_,_,_,_,_,_,_] Tryz.underlying40 Tryz.sizeOf97 (by exact Tryz.zeroValue97) rfl rfl rfl rfl (by rfl)⟩ ⟨⟨_,rfl,rfl,rfl,Eff.ofVal (Ld (v:=ownV c.l.length lo))⟩,trivial⟩ (fun _ _=>⟨⟨_,rfl,rfl,rfl,Eff.ofVal (Ld (v:=ownV c.l.length lo))⟩,trivial⟩) ⟨_,pk_⟩ (fun _ _=>⟨_,pk_⟩) fun b60 _=>Re 7 rfl (Eff.appendAny (fdC ((atD v.D c.nx).getD fd0)) (sz:=9) (bytes:=88) (z:= .agg #[.int .i64 0,.bool false,.int .i64 0,.int .i64 0,.int .u64 0,.int .u64 0,.int .u64 0,.string ⟨#[]⟩,.string ⟨#[]⟩]) (xs:=c.l.flatMap fdC) (m0:=c.l.length) (o:=lo) (m:=1) (pk:=[ownG 97 (c.l.flatMap fdC) (lo)]) rfl rfl Tryz.underlying40 kr_ rfl om_ pk_ (by simp) ho (by rfl) (fun hm0=>⟨b60,0,rfl,fun w hw=>V.range_of_block (o:=0) (cs:=fdC ((atD v.D c.nx).getD fd0)) (r:=[]) (hw.own _ (show InS (b60,.cells (fdC ((atD v.D c.nx).getD fd0)).toArray 97 (0,0)) _ from in_).mem) rfl⟩) (by rfl) om_ om_) fun lo2 hlo2=>?_
   have ea:c.l.flatMap fdC++fdC ((atD v.D c.nx).getD fd0)=(c.l++[((atD v.D c.nx).getD fd0)]).flatMap fdC:=by rw[List.flatMap_append];simp
   have el:c.l.length+1=(c.l++[((atD v.D c.nx).getD fd0)]).length:=by simp
   rw[ea,el] at hlo2⊢
   have ho2:=hlo2
   refine pR_ [8,9] ?_
   refine ReN 10 rfl (StS (h1:=V.ownV_one _ _)) fun _ _=>pA_ 7 ?_
   refine Lv Ld<|pA_ 3 ?_
   refine LeN StS fun _ _=>pA_ 3 ?_
   refine Qt<|pA_ 3 ?_
   refine Qv Ld<|pA_ 3 ?_
   refine Qv (Ld (v:= .pointer (some ⟨x.db,0,none⟩)))<|Qv Nz<|Qv (Fa 0 100)<|Qv (Ld (v:= .slice (some ⟨x.cb,0,none⟩) v.D.length x.cap))<|Qv Ln<|Qc (Qz_ (rslabs_c v.D.length))<|pA_ 5 ?_
   refine Cd_ rfl (fun h86=>?_) fun h86=>?_
   ·have h86:c.nx+1=2+8*slabsF v.D.length:=h86
    refine pA_ 4 ?_
    refine LeN StS fun _ _=>pA_ 10 ?_
    rw[esc]
    intro w' hw;exact⟨lo2,ho2,rfl,by rw[if_pos h86];exact hw.pick pk_⟩
   ·have h86:¬c.nx+1=2+8*slabsF v.D.length:=h86
    refine pA_ 10 ?_
    rw[esc]
    intro w' hw;exact⟨lo2,ho2,rfl,by rw[if_neg h86];exact hw.pick pk_⟩
  ·have h53:(atD v.D c.nx).isSome=false:=h53
   have esc:scFd v.D (c.nx-2) c.l=c.l:=by
    unfold scFd;rw[atD_sc]
    cases hz:atD v.D c.nx with
    |none=>rfl
    |some z=>rw[hz] at h53;cases h53
   refine pA_ 7 ?_
   refine Lv Ld<|pA_ 3 ?_
   refine LeN StS fun _ _=>pA_ 3 ?_
   refine Qt<|pA_ 3 ?_
   refine Qv Ld<|pA_ 3 ?_
   refine Qv (Ld (v:= .pointer (some ⟨x.db,0,none⟩)))<|Qv Nz<|Qv (Fa 0 100)<|Qv (Ld (v:= .slice (some ⟨x.cb,0,none⟩) v.D.length x.cap))<|Qv Ln<|Qc (Qz_ (rslabs_c v.D.length))<|pA_ 5 ?_
   refine Cd_ rfl (fun h86=>?_) fun h86=>?_
   ·have h86:c.nx+1=2+8*slabsF v.D.length:=h86
    refine pA_ 4 ?_
    refine LeN StS fun _ _=>pA_ 10 ?_
    rw[esc]
    intro w' hw;exact⟨lo,ho,rfl,by rw[if_pos h86];exact hw.pick pk_⟩
   ·have h86:¬c.nx+1=2+8*slabsF v.D.length:=h86
    refine pA_ 10 ?_
    rw[esc]
    intro w' hw;exact⟨lo,ho,rfl,by rw[if_neg h86];exact hw.pick pk_⟩
end
section
attribute [local irreducible] V.CW V.LW V.QW V.RW V.PQ V.Val V.Eff V.Qcall
open V (str byC ownV ownG ownS ownOk)
theorem rcopy3_g (x:DvR)(D:List Ce)(k:Cnt)(h0:0<D.length)(hD:D.length≤1000)(w:World)(hs:Sat (rdvS x D k) w):Calls Tryz.prog 39 [.pointer (some ⟨x.db,0,none⟩)].toArray w fun e w'=>∃y:DvR,True∧e= .returned (.pointer (some ⟨y.db,0,none⟩))∧Hp ⟨w,V.ids (rdvS x D k)⟩ ([(y.db,.cells (dxC y D k).toArray 104 (0,0))]::[(y.cb,.cells (cxC y D).toArray 132 (0,0))]::rdvS x D k) w':=rcopy_g x D k h0 hD w hs
def rovSeg (db th:Nat)(n e0:Int):Option (RAw×ROv)→Seg
 |none=>[]
 |some (a,r)=>(raS a db th n e0 r []).flatten
theorem rover2_g (x:DvR)(v:Dev)(hm:10≤v.D.length∧v.D.length≤258)(th:Nat)(ht:1≤th∧th≤4)(e0:Int)(he:0≤e0∧e0≤1152921504606846976)(Fs:List Fnd)(p:Option Addr)(cp:Nat)(hl:Fs.length≤1000)(hok:∀f∈Fs,fdOk f)(w:World)(hs:Sat (rvS3 x v) w)(h:V.slAt w p 9 fdC Fs)(hd:∀b o,p=some ⟨b,o,none⟩→b∉V.ids (rvS3 x v)):Calls Tryz.prog 38 [.pointer (some ⟨x.db,0,none⟩),.int .i64 (th:Nat),.int .u64 e0,.slice p Fs.length cp].toArray w fun e w'=>∃y:Option (RAw×ROv),rovY (slabsF v.D.length).toNat v.D.length Fs y∧e= .returned (.tuple #[rovP y,.int .i64 (rovE v.D.length Fs)])∧Hp ⟨w,V.ids (rvS3 x v)⟩ (rovSeg x.db th (slabsF v.D.length) e0 y::rvS3 x v) w':=by
 refine(rover_g x v hm th ht e0 he Fs p cp hl hok w hs h hd).mono fun e w' ⟨y,hy,hE,hw⟩=>⟨y,hy,hE,hw.perm ?_⟩
 cases y with
 |none=>exact .refl _
 |some z=>
  obtain⟨a,r⟩:=z
  exact List.Perm.of_eq (by simp[rovG,raS,rovSeg])
theorem draftL_le (c:Int):(draftL c).length≤64:=by
 by_cases h:spanF c=0
 ·unfold draftL;rw[if_pos h];simp
 ·rw[draftL_len h];exact Nat.le_refl _
theorem rst2_g (rb:Nat)(x:DvR)(v:Dev)(th:Nat)(c:RCo)(lo:V.OwnO)(ap:Option Addr)(hm:10≤v.D.length∧v.D.length≤258)(ho:ownOk 9 c.l.length (c.l.flatMap fdC) lo)(hl:c.l.length≤1000)(hri:rising c.l)(hkd:kindOk c.e c.l)(tx:∀f∈c.l,fdOk f)(ht:1≤th∧th≤4)(he:0≤c.e∧c.e≤1152921504606846976)(hp:c.ph=2):Mo Tryz.prog 13 [.pointer (some ⟨rb,0,none⟩)] (st3 rb x v th c lo ap) (fun lo':V.OwnO=>ownOk 9 (rstp v c).2.1.l.length ((rstp v c).2.1.l.flatMap fdC) lo') (fun _=> .int .i64 (rstp v c).2.2) (fun lo'=>st3 rb x (rstp v c).1 th (rstp v c).2.1 lo' ap):=by
 intro w hs
 have hkl:(c.l.filter (keepF c.e c.l)).length≤1000:=Nat.le_trans (List.length_filter_le _ _) hl
 have hok:∀f∈(c.l.filter (keepF c.e c.l)),fdOk f:=fun f hf=>tx f ((List.mem_filter.1 hf).1)
 have hov:ovE v.D.length (decK c.e c.l)=rovE v.D.length (c.l.filter (keepF c.e c.l)):=(over_ref hm.1 _).1.symm
 refine Ca_ Tryz.func13 rfl Tryz.ntmps13 hs<|pA_ 11 ?_
 refine Lv Ld<|pA_ 6 ?_
 refine LW.re 18 (.bool false) rfl (by simp[hp])<|pA_ 7 ?_
 refine LW.re 40 (.bool false) rfl (by simp[hp])<|pA_ 7 ?_
 refine LW.re 91 (.bool true) rfl (by simp[hp])<|pA_ 5 ?_
 refine Dr ([[(rb,.cells (rv3 x.db (th:Nat) c lo ap).toArray 43 (0,0))]])<|pR_ [0,1,2] ?_
 refine Rv 3 rfl (Ld (v:= .pointer (some ⟨x.db,0,none⟩)))<|pR_ [5,6,7] ?_
 refine Rv 8 rfl (Ld (v:= .int .i64 ((th:Nat):Int)))<|pR_ [9,10,11] ?_
 refine Rv 12 rfl (Ld (v:= .int .u64 c.e))<|Rv 13 rfl Mv<|Re 4 rfl (CM (rdvS x v.D v.k) fun w hw hs0=>rcopy3_g x v.D v.k om_ om_ w hs0) fun y97 _=>Re 14 rfl (Cm_ (rall_g rb x.db (th:Nat) c lo ap hl ho hri hkd)) fun oA hoA=>?_
 obtain⟨pA,cA,hvA,hsA,hdA⟩:=own_fd2 hoA
 refine RW.re 107 (.slice pA (c.l.filter (keepF c.e c.l)).length cA) rfl hvA<|Re 15 rfl (CM (rvS3 y97 v) fun w hw hs0=>rover2_g y97 v hm th ht c.e he (c.l.filter (keepF c.e c.l)) pA cA hkl hok w hs0 (hsA hw pk_) (hdA hw (show Pick (rvS3 y97 v) _ _ from pk_) pk_)) fun y hy=>pR_ [16,17,18,19,20] ?_
 refine pA_ 9 ?_
 refine Cd_ rfl (fun h112=>?_) fun h112=>?_
 ·have h112:rovE v.D.length (c.l.filter (keepF c.e c.l))≠0:=h112
  have e8:rstp v c=(v,{c with ph:=7},rovE v.D.length (c.l.filter (keepF c.e c.l))):=by unfold rstp;rw[if_neg om_,if_neg om_,if_pos hp,hov,if_neg h112]
  refine pA_ 4 ?_
  refine Le (Cm_ (rbroken_g rb x.db (th:Nat) c lo ap (rovE v.D.length (c.l.filter (keepF c.e c.l))))) fun _ _=>pA_ 8 ?_
  rw[e8]
  exact fi_ lo ho
 ·have h112:rovE v.D.length (c.l.filter (keepF c.e c.l))=0:=h112
  have e8:rstp v c=(v,{c with dc:=true,ph:=3},0):=by unfold rstp;rw[if_neg om_,if_neg om_,if_pos hp,hov,if_pos h112,h112]
  refine pA_ 7 ?_
  refine LeN StS fun _ _=>pA_ 6 ?_
  refine LeN StS fun _ _=>pA_ 10 ?_
  rw[e8]
  exact fi_ lo ho
theorem rst3_g (rb:Nat)(x:DvR)(v:Dev)(th:Nat)(c:RCo)(lo:V.OwnO)(ap:Option Addr)(hm:10≤v.D.length∧v.D.length≤258)(ho:ownOk 9 c.l.length (c.l.flatMap fdC) lo)(hl:c.l.length≤1000)(hri:rising c.l)(hkd:kindOk c.e c.l)(tx:∀f∈c.l,fdOk f)(hp:c.ph=3):Mo Tryz.prog 13 [.pointer (some ⟨rb,0,none⟩)] (st3 rb x v th c lo ap) (fun lo':V.OwnO=>ownOk 9 (rstp v c).2.1.l.length ((rstp v c).2.1.l.flatMap fdC) lo') (fun _=> .int .i64 (rstp v c).2.2) (fun lo'=>st3 rb x (rstp v c).1 th (rstp v c).2.1 lo' ap):=by
 intro w hs
 have hWl:(c.l.filter (scrubF c.e c.l)).length≤1000:=Nat.le_trans (List.length_filter_le _ _) hl
 refine Ca_ Tryz.func13 rfl Tryz.ntmps13 hs<|pA_ 11 ?_
 refine Lv Ld<|pA_ 6 ?_
 refine LW.re 18 (.bool false) rfl (by simp[hp])<|pA_ 7 ?_
 refine LW.re 40 (.bool false) rfl (by simp[hp])<|pA_ 7 ?_
 refine LW.re 91 (.bool false) rfl (by simp[hp])<|pA_ 8 ?_
 refine LW.re 123 (.bool true) rfl (by simp[hp])<|pA_ 13 ?_
 refine Lv Ld<|Lv Cm<|LW.re 130 (.bool false) rfl (by simp[hp])<|Le (Cm_ (rscrubF_g rb x.db (th:Nat) c lo ap hl ho hri hkd)) fun oS hoS=>pA_ 9 ?_
 refine Lv Ld<|Lv Mv<|Lv (Val.lenOwn rfl Tryz.underlying40 hoS)<|pA_ 3 ?_
 refine Cd_ rfl (fun h138=>?_) fun h138=>?_
 ·have h9:c.dn<(c.l.filter (scrubF c.e c.l)).length:=by omega
  obtain⟨gS,rS,cpS,rfl⟩:=own_some hoS om_
  obtain⟨y,hy⟩:∃y,(c.l.filter (scrubF c.e c.l))[c.dn]? =some y:=⟨(c.l.filter (scrubF c.e c.l))[c.dn]'h9,by simp⟩
  have e8:rstp v c=(wipeV v y,{c with dn:=c.dn+1},0):=by
   unfold rstp rwp;rw[if_neg om_,if_neg om_,if_neg om_,if_pos hp];show(match(c.l.filter (scrubF c.e c.l))[c.dn]? with|some f=>_|none=>_)=_;rw[hy]
  refine pA_ 6 ?_
  refine Lv Ld<|Lv (Val.indexAddrN (i:=c.dn) rfl rfl Tryz.underlying40 Tryz.sizeOf97 om_)<|LW.re 144 (.pointer (some ⟨gS,c.dn*9,none⟩)) rfl (by simp)<|Lv (La (fdC y) (r:=(own_el fdC_len hy rS).choose) (hl:=(own_el fdC_len hy rS).choose_spec))<|Le AA fun b10 _=>LeN (StW (cs:=fdC y)) fun _ _=>pA_ 3 ?_
  refine Dr ([(b10,.cells (fdC y).toArray 97 (0,0))]::[[(rb,.cells (rv3 x.db (th:Nat) c lo ap).toArray 43 (0,0))]])<|pR_ [0,1,2] ?_
  refine Rv 3 rfl (Ld (v:= .pointer (some ⟨x.db,0,none⟩)))<|Rv 4 rfl (Fa 0 3)<|Rv 5 rfl (Ld (v:= .int .i64 y.line))<|pR_ [6,7] ?_
  refine Rv 8 rfl (Ld (v:= .int .i64 y.b.cls))<|Re 9 rfl (Cn_ (rdraftG_c y.b.cls)) fun oD hoD=>?_
  have hdl:=draftL_le y.b.cls
  obtain⟨pD,cD,hvD,hsD,hdD⟩:=own_by2 (T:=5) hoD
  refine RW.re 155 (.slice pD (draftL y.b.cls).length cD) rfl hvD<|Re 10 rfl (CM (rvS3 x v) fun w hw hs0=>rstore_gc x v.D v.k y.line 0 (draftL y.b.cls) pD cD om_ w hs0 (hsD hw pk_) (fun _=>hdD hw (show Pick (rvS3 x v) _ _ from pk_) pk_)) fun _ _=>pA_ 3 ?_
  refine Dr ([(b10,.cells (fdC y).toArray 97 (0,0))]::[[(rb,.cells (rv3 x.db (th:Nat) c lo ap).toArray 43 (0,0))]])<|pR_ [0,1,2] ?_
  refine Rv 3 rfl (Ld (v:= .pointer (some ⟨x.db,0,none⟩)))<|Rv 4 rfl (Fa 0 3)<|Rv 5 rfl (Ld (v:= .int .i64 y.line))<|Re 6 rfl (Cm_ (rflush_g x (v.store y.line 0 (draftL y.b.cls)).D (v.store y.line 0 (draftL y.b.cls)).k y.line)) fun _ _=>pA_ 7 ?_
  refine Lv Ld<|pA_ 3 ?_
  refine LeN StS fun _ _=>pA_ 12 ?_
  rw[e8]
  exact fi_ lo ho
 ·have h9:(c.l.filter (scrubF c.e c.l))[c.dn]? =none:=List.getElem?_eq_none om_
  have e8:rstp v c=(v.fence,{c with dn:=0,ph:=c.ph+1},0):=by
   unfold rstp rwp;rw[if_neg om_,if_neg om_,if_neg om_,if_pos hp];show(match(c.l.filter (scrubF c.e c.l))[c.dn]? with|some f=>_|none=>_)=_;rw[h9]
  refine pA_ 7 ?_
  refine Lv (Ld (v:= .pointer (some ⟨x.db,0,none⟩)))<|Le (Cm_ (rfence_g x v.D v.k om_)) fun _ _=>pA_ 7 ?_
  refine LeN StS fun _ _=>pA_ 6 ?_
  refine Lv Ld<|pA_ 3 ?_
  refine LeN StS fun _ _=>pA_ 10 ?_
  rw[e8]
  exact fi_ lo ho
theorem rst4_g (rb:Nat)(x:DvR)(v:Dev)(th:Nat)(c:RCo)(lo:V.OwnO)(ap:Option Addr)(hm:10≤v.D.length∧v.D.length≤258)(ho:ownOk 9 c.l.length (c.l.flatMap fdC) lo)(hl:c.l.length≤1000)(hri:rising c.l)(hkd:kindOk c.e c.l)(tx:∀f∈c.l,fdOk f)(hp:c.ph=4):Mo Tryz.prog 13 [.pointer (some ⟨rb,0,none⟩)] (st3 rb x v th c lo ap) (fun lo':V.OwnO=>ownOk 9 (rstp v c).2.1.l.length ((rstp v c).2.1.l.flatMap fdC) lo') (fun _=> .int .i64 (rstp v c).2.2) (fun lo'=>st3 rb x (rstp v c).1 th (rstp v c).2.1 lo' ap):=by
 intro w hs
 have hWl:(c.l.filter (antiF c.e)).length≤1000:=Nat.le_trans (List.length_filter_le _ _) hl
 refine Ca_ Tryz.func13 rfl Tryz.ntmps13 hs<|pA_ 11 ?_
 refine Lv Ld<|pA_ 6 ?_
 refine LW.re 18 (.bool false) rfl (by simp[hp])<|pA_ 7 ?_
 refine LW.re 40 (.bool false) rfl (by simp[hp])<|pA_ 7 ?_
 refine LW.re 91 (.bool false) rfl (by simp[hp])<|pA_ 8 ?_
 refine LW.re 123 (.bool false) rfl (by simp[hp])<|pA_ 6 ?_
 refine LW.re 124 (.bool true) rfl (by simp[hp])<|pA_ 10 ?_
 refine Lv Ld<|Lv Cm<|LW.re 130 (.bool true) rfl (by simp[hp])<|Le (Cm_ (rscrubT_g rb x.db (th:Nat) c lo ap hl ho hri hkd)) fun oS hoS=>pA_ 9 ?_
 refine Lv Ld<|Lv Mv<|Lv (Val.lenOwn rfl Tryz.underlying40 hoS)<|pA_ 3 ?_
 refine Cd_ rfl (fun h138=>?_) fun h138=>?_
 ·have h9:c.dn<(c.l.filter (antiF c.e)).length:=by omega
  obtain⟨gS,rS,cpS,rfl⟩:=own_some hoS om_
  obtain⟨y,hy⟩:∃y,(c.l.filter (antiF c.e))[c.dn]? =some y:=⟨(c.l.filter (antiF c.e))[c.dn]'h9,by simp⟩
  have e8:rstp v c=(wipeV v y,{c with dn:=c.dn+1},0):=by
   unfold rstp rwp;rw[if_neg om_,if_neg om_,if_neg om_,if_neg om_,if_pos hp];show(match(c.l.filter (antiF c.e))[c.dn]? with|some f=>_|none=>_)=_;rw[hy]
  refine pA_ 6 ?_
  refine Lv Ld<|Lv (Val.indexAddrN (i:=c.dn) rfl rfl Tryz.underlying40 Tryz.sizeOf97 om_)<|LW.re 144 (.pointer (some ⟨gS,c.dn*9,none⟩)) rfl (by simp)<|Lv (La (fdC y) (r:=(own_el fdC_len hy rS).choose) (hl:=(own_el fdC_len hy rS).choose_spec))<|Le AA fun b10 _=>LeN (StW (cs:=fdC y)) fun _ _=>pA_ 3 ?_
  refine Dr ([(b10,.cells (fdC y).toArray 97 (0,0))]::[[(rb,.cells (rv3 x.db (th:Nat) c lo ap).toArray 43 (0,0))]])<|pR_ [0,1,2] ?_
  refine Rv 3 rfl (Ld (v:= .pointer (some ⟨x.db,0,none⟩)))<|Rv 4 rfl (Fa 0 3)<|Rv 5 rfl (Ld (v:= .int .i64 y.line))<|pR_ [6,7] ?_
  refine Rv 8 rfl (Ld (v:= .int .i64 y.b.cls))<|Re 9 rfl (Cn_ (rdraftG_c y.b.cls)) fun oD hoD=>?_
  have hdl:=draftL_le y.b.cls
  obtain⟨pD,cD,hvD,hsD,hdD⟩:=own_by2 (T:=5) hoD
  refine RW.re 155 (.slice pD (draftL y.b.cls).length cD) rfl hvD<|Re 10 rfl (CM (rvS3 x v) fun w hw hs0=>rstore_gc x v.D v.k y.line 0 (draftL y.b.cls) pD cD om_ w hs0 (hsD hw pk_) (fun _=>hdD hw (show Pick (rvS3 x v) _ _ from pk_) pk_)) fun _ _=>pA_ 3 ?_
  refine Dr ([(b10,.cells (fdC y).toArray 97 (0,0))]::[[(rb,.cells (rv3 x.db (th:Nat) c lo ap).toArray 43 (0,0))]])<|pR_ [0,1,2] ?_
  refine Rv 3 rfl (Ld (v:= .pointer (some ⟨x.db,0,none⟩)))<|Rv 4 rfl (Fa 0 3)<|Rv 5 rfl (Ld (v:= .int .i64 y.line))<|Re 6 rfl (Cm_ (rflush_g x (v.store y.line 0 (draftL y.b.cls)).D (v.store y.line 0 (draftL y.b.cls)).k y.line)) fun _ _=>pA_ 7 ?_
  refine Lv Ld<|pA_ 3 ?_
  refine LeN StS fun _ _=>pA_ 12 ?_
  rw[e8]
  exact fi_ lo ho
 ·have h9:(c.l.filter (antiF c.e))[c.dn]? =none:=List.getElem?_eq_none om_
  have e8:rstp v c=(v.fence,{c with dn:=0,ph:=c.ph+1},0):=by
   unfold rstp rwp;rw[if_neg om_,if_neg om_,if_neg om_,if_neg om_,if_pos hp];show(match(c.l.filter (antiF c.e))[c.dn]? with|some f=>_|none=>_)=_;rw[h9]
  refine pA_ 7 ?_
  refine Lv (Ld (v:= .pointer (some ⟨x.db,0,none⟩)))<|Le (Cm_ (rfence_g x v.D v.k om_)) fun _ _=>pA_ 7 ?_
  refine LeN StS fun _ _=>pA_ 6 ?_
  refine Lv Ld<|pA_ 3 ?_
  refine LeN StS fun _ _=>pA_ 10 ?_
  rw[e8]
  exact fi_ lo ho
theorem rst5_g (rb:Nat)(x:DvR)(v:Dev)(th:Nat)(c:RCo)(lo:V.OwnO)(ap:Option Addr)(hm:10≤v.D.length∧v.D.length≤258)(ho:ownOk 9 c.l.length (c.l.flatMap fdC) lo)(hl:c.l.length≤1000)(hri:rising c.l)(hkd:kindOk c.e c.l)(tx:∀f∈c.l,fdOk f)(ht:1≤th∧th≤4)(he:0≤c.e∧c.e≤1152921504606846976)(hp:c.ph=5)(hz:ovE v.D.length (decK c.e c.l)=0)(w:World)(hs:Sat (st3 rb x v th c lo ap) w):Calls Tryz.prog 13 [.pointer (some ⟨rb,0,none⟩)].toArray w fun e w'=>∃z:RAw×ROv,rovAll (slabsF v.D.length).toNat rov0 (decK c.e c.l)=some z.2∧RaOk z.1 z.2∧RLen z.2 1000∧e= .returned (.int .i64 0)∧Hp ⟨w,V.ids ((st3 rb x v th c lo ap))⟩ ([(rb,.cells (rv3 x.db (th:Nat) {c with ph:=6} lo (some ⟨z.1.ab,0,none⟩)).toArray 43 (0,0))]::ownG 97 (c.l.flatMap fdC) lo::(raS z.1 x.db th (slabsF v.D.length) c.e z.2 []).flatten::rvS3 x v) w':=by
 have hkl:(c.l.filter (keepF c.e c.l)).length≤1000:=Nat.le_trans (List.length_filter_le _ _) hl
 have hok:∀f∈(c.l.filter (keepF c.e c.l)),fdOk f:=fun f hf=>tx f ((List.mem_filter.1 hf).1)
 have hov:ovE v.D.length (decK c.e c.l)=rovE v.D.length (c.l.filter (keepF c.e c.l)):=(over_ref hm.1 _).1.symm
 have hrz:rovE v.D.length (c.l.filter (keepF c.e c.l))=0:=hov▸hz
 refine Cs_ (st3 rb x v th c lo ap) Tryz.func13 rfl Tryz.ntmps13 hs<|pA_ 11 ?_
 refine Lv Ld<|pA_ 6 ?_
 refine LW.re 18 (.bool false) rfl (by simp[hp])<|pA_ 7 ?_
 refine LW.re 40 (.bool false) rfl (by simp[hp])<|pA_ 7 ?_
 refine LW.re 91 (.bool false) rfl (by simp[hp])<|pA_ 8 ?_
 refine LW.re 123 (.bool false) rfl (by simp[hp])<|pA_ 6 ?_
 refine LW.re 124 (.bool false) rfl (by simp[hp])<|pA_ 7 ?_
 refine LW.re 187 (.bool true) rfl (by simp[hp])<|pA_ 5 ?_
 refine Dr ([[(rb,.cells (rv3 x.db (th:Nat) c lo ap).toArray 43 (0,0))]])<|pR_ [0,1,2] ?_
 refine Rv 3 rfl (Ld (v:= .pointer (some ⟨x.db,0,none⟩)))<|pR_ [4,5,6] ?_
 refine Rv 7 rfl (Ld (v:= .int .i64 ((th:Nat):Int)))<|pR_ [8,9,10] ?_
 refine Rv 11 rfl (Ld (v:= .int .u64 c.e))<|Rv 12 rfl Mv<|Re 13 rfl (Cm_ (rall_g rb x.db (th:Nat) c lo ap hl ho hri hkd)) fun oA hoA=>?_
 obtain⟨pA,cA,hvA,hsA,hdA⟩:=own_fd2 hoA
 refine RW.re 202 (.slice pA (c.l.filter (keepF c.e c.l)).length cA) rfl hvA<|Re 14 rfl (CM (rvS3 x v) fun w hw hs0=>rover2_g x v hm th ht c.e he (c.l.filter (keepF c.e c.l)) pA cA hkl hok w hs0 (hsA hw pk_) (hdA hw (show Pick (rvS3 x v) _ _ from pk_) pk_)) fun y hy=>?_
 obtain⟨a,r,rfl⟩:∃a r,y=some (a,r):=by
  rcases y with _|⟨a,r⟩
  ·exact absurd hrz hy
  ·exact⟨a,r,rfl⟩
 refine pR_ [15,16,17,18,19] ?_
 refine pA_ 7 ?_
 refine LW.re 207 (.bool false) rfl (by simp[hrz])<|pA_ 11 ?_
 refine LeN (StS (h1:=rfl)) fun _ _=>pA_ 6 ?_
 refine LeN StS fun _ _=>pA_ 10 ?_
 intro w' hw;exact⟨(a,r),hy.2.1,hy.2.2.1,⟨Nat.le_trans hy.2.2.2.p hkl,Nat.le_trans hy.2.2.2.t hkl,Nat.le_trans hy.2.2.2.q hkl⟩,rfl,hw.pick pk_⟩
theorem rst6_g (rb db:Nat)(th:Int)(c:RCo)(lo:V.OwnO)(ap:Option Addr)(hp:c.ph=6∨c.ph=7):Mo Tryz.prog 13 [.pointer (some ⟨rb,0,none⟩)] [[(rb,.cells (rv3 db th c lo ap).toArray 43 (0,0))]] (fun _u:Unit=>True) (fun _=> .int .i64 12) (fun _=>[[(rb,.cells (rv3 db th c lo ap).toArray 43 (0,0))]]):=by
 intro w hs
 refine Ca_ Tryz.func13 rfl Tryz.ntmps13 hs<|pA_ 11 ?_
 refine Lv Ld<|pA_ 6 ?_
 refine LW.re 18 (.bool false) rfl (by rcases hp with hp|hp<;>simp[hp])<|pA_ 7 ?_
 refine LW.re 40 (.bool false) rfl (by rcases hp with hp|hp<;>simp[hp])<|pA_ 7 ?_
 refine LW.re 91 (.bool false) rfl (by rcases hp with hp|hp<;>simp[hp])<|pA_ 8 ?_
 refine LW.re 123 (.bool false) rfl (by rcases hp with hp|hp<;>simp[hp])<|pA_ 6 ?_
 refine LW.re 124 (.bool false) rfl (by rcases hp with hp|hp<;>simp[hp])<|pA_ 7 ?_
 refine LW.re 187 (.bool false) rfl (by rcases hp with hp|hp<;>simp[hp])<|pA_ 13 ?_
 intro w' hw;exact⟨(),trivial,rfl,hw⟩
end
section
attribute [local irreducible] V.CW V.LW V.QW V.RW V.PQ V.Val V.Eff V.Qcall
open V (str byC ownV ownG ownS ownOk)
instance:Zer Tryz.prog 259 (zOf Tryz.zeroValue259):=⟨Tryz.zeroValue259⟩
instance:Und Tryz.prog 270 (dOf Tryz.underlying270):=⟨Tryz.underlying270⟩
instance:Siz Tryz.prog 270 (kOf Tryz.sizeOf270):=⟨Tryz.sizeOf270⟩
instance:Zer Tryz.prog 270 (zOf Tryz.zeroValue270):=⟨Tryz.zeroValue270⟩
instance:Cal Tryz.prog 165:=⟨Tryz.call165⟩
instance:Cal Tryz.prog 178:=⟨Tryz.call178⟩
instance:Cal Tryz.prog 180:=⟨Tryz.call180⟩
theorem areaders_g (x:ArR)(s:ArS)(w:World)(ha:w.heap[x.a]? =some (.cells (arC x s).toArray 256 (0,0))):Calls Tryz.prog 122 [.pointer (some ⟨x.a,0,none⟩)].toArray w fun e w'=>e= .returned (.pointer (some ⟨x.rb,0,none⟩))∧Below w.heap.size w w':=by
 refine Cb_ Tryz.func122 rfl Tryz.ntmps122<|pA_ 20 ?_
 refine Lv (Val.loadO rfl Tryz.isAgg211 (V.lt_of_some ha) (by simp[ids]) (V.cell_of_block ha rfl))<|pA_ 5 ?_
 exact fb_
theorem aclock_g (x:ArR)(s:ArS)(w:World)(ha:w.heap[x.a]? =some (.cells (arC x s).toArray 256 (0,0))):Calls Tryz.prog 117 [.pointer (some ⟨x.a,0,none⟩)].toArray w fun e w'=>e= .returned (.pointer (some ⟨x.cb,0,none⟩))∧Below w.heap.size w w':=by
 refine Cb_ Tryz.func117 rfl Tryz.ntmps117<|pA_ 20 ?_
 refine Lv (Val.loadO rfl Tryz.isAgg205 (V.lt_of_some ha) (by simp[ids]) (V.cell_of_block ha rfl))<|pA_ 5 ?_
 exact fb_
theorem abag_g (x:ArR)(s:ArS)(w:World)(ha:w.heap[x.a]? =some (.cells (arC x s).toArray 256 (0,0))):Calls Tryz.prog 114 [.pointer (some ⟨x.a,0,none⟩)].toArray w fun e w'=>e= .returned (.pointer (some ⟨x.lb,0,none⟩))∧Below w.heap.size w w':=by
 refine Cb_ Tryz.func114 rfl Tryz.ntmps114<|pA_ 20 ?_
 refine Lv (Val.loadO rfl Tryz.isAgg199 (V.lt_of_some ha) (by simp[ids]) (V.cell_of_block ha rfl))<|pA_ 5 ?_
 exact fb_
theorem aorder_g (x:ArR)(s:ArS)(w:World)(ha:w.heap[x.a]? =some (.cells (arC x s).toArray 256 (0,0))):Calls Tryz.prog 109 [.pointer (some ⟨x.a,0,none⟩)].toArray w fun e w'=>e= .returned (.pointer (some ⟨x.ob,0,none⟩))∧Below w.heap.size w w':=by
 refine Cb_ Tryz.func109 rfl Tryz.ntmps109<|pA_ 20 ?_
 refine Lv (Val.loadO rfl Tryz.isAgg193 (V.lt_of_some ha) (by simp[ids]) (V.cell_of_block ha rfl))<|pA_ 5 ?_
 exact fb_
theorem anumbers_g (x:ArR)(s:ArS):Rx Tryz.prog 95 [.pointer (some ⟨x.a,0,none⟩)] [[(x.a,.cells (arC x s).toArray 256 (0,0))]] (.tuple #[.int .u64 s.id,.int .u64 s.ver]):=by
 intro w hs
 refine Ca_ Tryz.func95 rfl Tryz.ntmps95 hs<|pA_ 17 ?_
 refine Qt<|pA_ 3 ?_
 refine Qc (QV fun w hw=>uLd_c x.a 8 (arC x s) 256 s.id w rfl (hw.sat.pick (ss:=[[(x.a,.cells (arC x s).toArray 256 (0,0))]]) pk_))<|pA_ 3 ?_
 refine Qc (QV fun w hw=>uLd_c x.a 9 (arC x s) 256 s.ver w rfl (hw.sat.pick (ss:=[[(x.a,.cells (arC x s).toArray 256 (0,0))]]) pk_))<|pA_ 6 ?_
 exact fr_ hs
theorem ef_one (l:List Eft):(l.flatMap efC).all (·.oneCell')=true:=by
 induction l with
 |nil=>rfl
 |cons f r ih=>rw[List.flatMap_cons,List.all_append,ih];rfl
def ef0:Eft:=⟨0,[],[],0,0,0,0⟩
theorem cloneEf_c (l:List Eft)(p:Option Addr)(c:Nat)(hl:l.length≤100000)(w:World)(h:V.slAt w p 7 efC l):Calls Tryz.prog 165 [.slice p l.length c].toArray w fun e w'=>∃o:V.OwnO,ownOk 7 l.length (l.flatMap efC) o∧e= .returned (ownV l.length o)∧Hp ⟨w,[]⟩ [ownG 259 (l.flatMap efC) o] w':=by
 haveI:Inhabited Eft:=⟨ef0⟩
 refine Cb_ Tryz.func165 rfl Tryz.ntmps165<|pA_ 9 ?_
 refine Lv (Val.eqSlNil rfl rfl Tryz.underlying160)<|Nl<|Ps ?_
 refine Cd_ rfl (fun h4=>?_) fun h4=>?_
 ·have hpn:p=none:=by cases p with|none=>rfl|some q=>simp at h4
  obtain rfl:l=[]:=by
   rcases h with h|⟨b,o,h,_⟩
   ·exact h
   ·rw[hpn] at h;cases h
  refine pA_ 8 ?_
  intro w' hw;exact⟨none,⟨rfl,rfl⟩,rfl,hw.perm (.refl _)⟩
 ·refine pA_ 4 ?_
  refine Le (Eff.buildSlice0 Tryz.underlying160 Tryz.sizeOf259) fun b5 _=>Lv Mv<|Le (Eff.appendAny (l.flatMap efC) (sz:=7) (bytes:=72) (z:= .agg #[.int .i64 0,.string ⟨#[]⟩,.string ⟨#[]⟩,.int .u64 0,.int .u64 0,.int .u64 0,.int .i64 0]) (xs:=[]) (m0:=0) (o:=some (b5,[],0)) (m:=l.length) (pk:=[ownG 259 [] (some (b5,[],0))]) rfl rfl Tryz.underlying160 kr_ rfl om_ pk_ (by simp) ⟨rfl,rfl⟩ (V.flatMap_len efC_len _) (fun hm0=>by obtain⟨b8,o8,h8,h9⟩:=sl_range (F:=[]) efC_len h hm0 (by simp);exact⟨b8,o8,h8,fun w1 hw1=>h9 w1 hw1⟩) (ef_one l) om_ om_) fun o2 ho2=>?_
  have h2:ownOk 7 l.length (l.flatMap efC) o2:=by simpa using ho2
  rw[List.nil_append,Nat.zero_add]
  refine pA_ 5 ?_
  exact fi_ o2 h2
theorem aeffects_g (x:ArR)(s:ArS)(hk:ownOk 7 s.ef.length (s.ef.flatMap efC) s.eo)(hl:s.ef.length≤100000)(w:World)(hs:Sat ([(x.a,.cells (arC x s).toArray 256 (0,0))]::[ownG 259 (s.ef.flatMap efC) s.eo]) w):Calls Tryz.prog 96 [.pointer (some ⟨x.a,0,none⟩)].toArray w fun e w'=>∃o:V.OwnO,ownOk 7 s.ef.length (s.ef.flatMap efC) o∧e= .returned (ownV s.ef.length o)∧Hp ⟨w,V.ids (([(x.a,.cells (arC x s).toArray 256 (0,0))]::[ownG 259 (s.ef.flatMap efC) s.eo]))⟩ (ownG 259 (s.ef.flatMap efC) o::([(x.a,.cells (arC x s).toArray 256 (0,0))]::[ownG 259 (s.ef.flatMap efC) s.eo])) w':=by
 obtain⟨pl,cl,hvl,_,hsl⟩:=own_slg (e:=259) efC_len s.ef s.eo hk
 refine Cs_ ([(x.a,.cells (arC x s).toArray 256 (0,0))]::[ownG 259 (s.ef.flatMap efC) s.eo]) Tryz.func96 rfl Tryz.ntmps96 hs<|pA_ 20 ?_
 refine Lv (Ld (v:=ownV s.ef.length s.eo))<|LW.re 8 (.slice pl s.ef.length cl) rfl hvl<|Le (CM [] fun w hw hs0=>cloneEf_c s.ef pl cl hl w (hsl hw pk_)) fun y hy=>pA_ 5 ?_
 exact fi_ y hy
theorem en_one (l:List Ent):(l.flatMap enC).all (·.oneCell')=true:=by
 induction l with
 |nil=>rfl
 |cons f r ih=>rw[List.flatMap_cons,List.all_append,ih];rfl
def en0:Ent:=⟨0,0,0,0,0⟩
theorem cloneEn_c (l:List Ent)(p:Option Addr)(c:Nat)(hl:l.length≤100000)(w:World)(h:V.slAt w p 5 enC l):Calls Tryz.prog 180 [.slice p l.length c].toArray w fun e w'=>∃o:V.OwnO,ownOk 5 l.length (l.flatMap enC) o∧e= .returned (ownV l.length o)∧Hp ⟨w,[]⟩ [ownG 270 (l.flatMap enC) o] w':=by
 haveI:Inhabited Ent:=⟨en0⟩
 refine Cb_ Tryz.func180 rfl Tryz.ntmps180<|pA_ 9 ?_
 refine Lv (Val.eqSlNil rfl rfl Tryz.underlying198)<|Nl<|Ps ?_
 refine Cd_ rfl (fun h4=>?_) fun h4=>?_
 ·have hpn:p=none:=by cases p with|none=>rfl|some q=>simp at h4
  obtain rfl:l=[]:=by
   rcases h with h|⟨b,o,h,_⟩
   ·exact h
   ·rw[hpn] at h;cases h
  refine pA_ 8 ?_
  intro w' hw;exact⟨none,⟨rfl,rfl⟩,rfl,hw.perm (.refl _)⟩
 ·refine pA_ 4 ?_
  refine Le (Eff.buildSlice0 Tryz.underlying198 Tryz.sizeOf270) fun b5 _=>Lv Mv<|Le (Eff.appendAny (l.flatMap enC) (sz:=5) (bytes:=40) (z:= .agg #[.int .i64 0,.int .i64 0,.int .u64 0,.int .u64 0,.int .i64 0]) (xs:=[]) (m0:=0) (o:=some (b5,[],0)) (m:=l.length) (pk:=[ownG 270 [] (some (b5,[],0))]) rfl rfl Tryz.underlying198 kr_ rfl om_ pk_ (by simp) ⟨rfl,rfl⟩ (V.flatMap_len enC_len _) (fun hm0=>by obtain⟨b8,o8,h8,h9⟩:=sl_range (F:=[]) enC_len h hm0 (by simp);exact⟨b8,o8,h8,fun w1 hw1=>h9 w1 hw1⟩) (en_one l) om_ om_) fun o2 ho2=>?_
  have h2:ownOk 5 l.length (l.flatMap enC) o2:=by simpa using ho2
  rw[List.nil_append,Nat.zero_add]
  refine pA_ 5 ?_
  exact fi_ o2 h2
theorem ball_g (b:Nat)(o:V.OwnO)(l:List Ent)(hk:ownOk 5 l.length (l.flatMap enC) o)(hl:l.length≤100000)(w:World)(hs:Sat (bgS b l o) w):Calls Tryz.prog 115 [.pointer (some ⟨b,0,none⟩)].toArray w fun e w'=>∃y:V.OwnO,ownOk 5 l.length (l.flatMap enC) y∧e= .returned (ownV l.length y)∧Hp ⟨w,V.ids ((bgS b l o))⟩ (ownG 270 (l.flatMap enC) y::bgS b l o) w':=by
 obtain⟨pl,cl,hvl,_,hsl⟩:=own_slg (e:=270) enC_len l o hk
 refine Cs_ (bgS b l o) Tryz.func115 rfl Tryz.ntmps115 hs<|pA_ 20 ?_
 refine Lv (Ld (v:=ownV l.length o))<|LW.re 8 (.slice pl l.length cl) rfl hvl<|Le (CM [] fun w hw hs0=>cloneEn_c l pl cl hl w (hsl hw pk_)) fun y hy=>pA_ 5 ?_
 exact fi_ y hy
theorem lk_one1 (l:List Lk):(l.flatMap lkC).all (·.oneCell')=true:=by
 induction l with
 |nil=>rfl
 |cons f r ih=>rw[List.flatMap_cons,List.all_append,ih];rfl
theorem cloneLk_c (l:List Lk)(p:Option Addr)(c:Nat)(hl:l.length≤100000)(w:World)(h:V.slAt w p 5 lkC l):Calls Tryz.prog 178 [.slice p l.length c].toArray w fun e w'=>∃o:V.OwnO,ownOk 5 l.length (l.flatMap lkC) o∧e= .returned (ownV l.length o)∧Hp ⟨w,[]⟩ [ownG 165 (l.flatMap lkC) o] w':=by
 haveI:Inhabited Lk:=⟨lk0⟩
 refine Cb_ Tryz.func178 rfl Tryz.ntmps178<|pA_ 9 ?_
 refine Lv (Val.eqSlNil rfl rfl Tryz.underlying159)<|Nl<|Ps ?_
 refine Cd_ rfl (fun h4=>?_) fun h4=>?_
 ·have hpn:p=none:=by cases p with|none=>rfl|some q=>simp at h4
  obtain rfl:l=[]:=by
   rcases h with h|⟨b,o,h,_⟩
   ·exact h
   ·rw[hpn] at h;cases h
  refine pA_ 8 ?_
  intro w' hw;exact⟨none,⟨rfl,rfl⟩,rfl,hw.perm (.refl _)⟩
 ·refine pA_ 4 ?_
  refine Le (Eff.buildSlice0 Tryz.underlying159 Tryz.sizeOf165) fun b5 _=>Lv Mv<|Le (Eff.appendAny (l.flatMap lkC) (sz:=5) (bytes:=48) (z:= .agg #[.string ⟨#[]⟩,.int .u64 0,.int .u64 0,.int .i64 0,.int .i64 0]) (xs:=[]) (m0:=0) (o:=some (b5,[],0)) (m:=l.length) (pk:=[ownG 165 [] (some (b5,[],0))]) rfl rfl Tryz.underlying159 kr_ rfl om_ pk_ (by simp) ⟨rfl,rfl⟩ (V.flatMap_len lkC_len _) (fun hm0=>by obtain⟨b8,o8,h8,h9⟩:=sl_range (F:=[]) lkC_len h hm0 (by simp);exact⟨b8,o8,h8,fun w1 hw1=>h9 w1 hw1⟩) (lk_one1 l) om_ om_) fun o2 ho2=>?_
  have h2:ownOk 5 l.length (l.flatMap lkC) o2:=by simpa using ho2
  rw[List.nil_append,Nat.zero_add]
  refine pA_ 5 ?_
  exact fi_ o2 h2
theorem satP {w:World}{sg sg':V.Sg}(h:Sat sg w)(hp:sg.flatten.Perm sg'.flatten):Sat sg' w:=⟨fun p h8=>h.own p (hp.mem_iff.2 h8),(hp.map Prod.fst).nodup_iff.1 h.nd⟩
theorem hp_ids {w w':World}{s1 s2 so:V.Sg}(hp:s1.flatten.Perm s2.flatten)(h:Hp ⟨w,V.ids s2⟩ so w'):Hp ⟨w,V.ids s1⟩ so w':=by
 have hm:∀b,b∈V.ids s1↔b∈V.ids s2:=fun b=>(hp.map Prod.fst).mem_iff
 exact⟨h.os,h.tape,h.output,h.size,fun k hk hf=>h.old k hk (fun h1=>hf ((hm k).2 h1)),h.own,fun p hp1=>(h.lo p hp1).imp id (hm p.1).2,h.nd⟩
def odL0 (Lz:List LvO):List Lk:=((Lz[0]?).map Prod.fst).getD []
theorem odP {ob:Nat}{Lz:List LvO}{p:LvO}(h:Lz[0]? =some p):(odS ob Lz).flatten.Perm (([[(ob,.cells (odC Lz).toArray 284 (0,0))],ownG 165 (p.1.flatMap lkC) p.2,odM (Lz.eraseIdx 0)]:V.Sg).flatten):=by
 simp only[List.flatten_cons,List.flatten_nil,List.append_nil]
 exact List.Perm.append_left _ (odM_at h)
theorem oall_g (ob:Nat)(Lz:List LvO)(h4:Lz.length=4)(hO:∀p∈Lz,lvOk p)(hn9:(odL0 Lz).length≤900)(w:World)(hs:Sat (odS ob Lz) w):Calls Tryz.prog 110 [.pointer (some ⟨ob,0,none⟩)].toArray w fun e w'=>∃o:V.OwnO,ownOk 5 (odL0 Lz).length ((odL0 Lz).flatMap lkC) o∧e= .returned (ownV (odL0 Lz).length o)∧Hp ⟨w,V.ids ((odS ob Lz))⟩ (ownG 165 ((odL0 Lz).flatMap lkC) o::odS ob Lz) w':=by
 obtain⟨p,hp⟩:∃p,Lz[0]? =some p:=⟨Lz[0]'om_,by simp⟩
 obtain⟨lp,yp⟩:=p
 have hpk:ownOk 5 lp.length (lp.flatMap lkC) yp:=hO _ (List.mem_of_getElem? hp)
 have hlp:lp.length≤900:=by unfold odL0 at hn9;rw[hp] at hn9;exact hn9
 obtain⟨ps,cs,hvs,_,hss⟩:=own_slg (e:=165) lkC_len lp yp hpk
 have e0:odL0 Lz=lp:=by unfold odL0;rw[hp];rfl
 rw[e0]
 refine Calls.mono (R:=fun e w'=>∃o:V.OwnO,ownOk 5 lp.length (lp.flatMap lkC) o∧e= .returned (ownV lp.length o)∧Hp ⟨w,V.ids [[(ob,.cells (odC Lz).toArray 284 (0,0))],ownG 165 (lp.flatMap lkC) yp,odM (Lz.eraseIdx 0)]⟩ (ownG 165 (lp.flatMap lkC) o::[[(ob,.cells (odC Lz).toArray 284 (0,0))],ownG 165 (lp.flatMap lkC) yp,odM (Lz.eraseIdx 0)]) w') ?_ fun e w' ⟨y,h1,h2,h3⟩=>⟨y,h1,h2,hp_ids (odP hp) (h3.perm (by simp only[List.flatten_cons];exact List.Perm.append_left _ (odP hp).symm))⟩
 refine V.calls [[(ob,.cells (odC Lz).toArray 284 (0,0))],ownG 165 (lp.flatMap lkC) yp,odM (Lz.eraseIdx 0)] Tryz.func110 rfl Tryz.ntmps110 (Nat.le_of_ble_eq_true rfl) (satP hs (odP hp))<|pA_ 20 ?_
 refine Lv (Val.indexAddrA (i:=0) rfl rfl Tryz.underlying282 Tryz.sizeOf159 om_)<|Lv (Ld (v:=ownV lp.length yp) (hl:=by have h8:=odC_at hp;simpa using h8))<|LW.re 9 (.slice ps lp.length cs) rfl hvs<|Le (CM [] fun w hw hs0=>cloneLk_c lp ps cs om_ w (hss hw pk_)) fun y hy=>pA_ 5 ?_
 exact fi_ y hy
theorem kNow_g (cb wb:Nat)(c:Ckk):Rx Tryz.prog 120 [.pointer (some ⟨cb,0,none⟩)] [[(cb,.cells (ckC wb c).toArray 295 (0,0))]] (.int .u64 c.now):=by
 intro w hs
 refine Ca_ Tryz.func120 rfl Tryz.ntmps120 hs<|pA_ 20 ?_
 refine Le (CV fun w hw=>uLd_c cb 0 (ckC wb c) 295 c.now w rfl (hw.sat.pick (ss:=[[(cb,.cells (ckC wb c).toArray 295 (0,0))]]) pk_)) fun _ _=>pA_ 5 ?_
 exact fr_ hs
theorem kDurable_g (cb wb:Nat)(c:Ckk):Rx Tryz.prog 121 [.pointer (some ⟨cb,0,none⟩)] [[(cb,.cells (ckC wb c).toArray 295 (0,0))]] (.int .u64 c.dur):=by
 intro w hs
 refine Ca_ Tryz.func121 rfl Tryz.ntmps121 hs<|pA_ 20 ?_
 refine Le (CV fun w hw=>uLd_c cb 1 (ckC wb c) 295 c.dur w rfl (hw.sat.pick (ss:=[[(cb,.cells (ckC wb c).toArray 295 (0,0))]]) pk_)) fun _ _=>pA_ 5 ?_
 exact fr_ hs
theorem rNow_g (rb hb:Nat)(r:Rdr):Rx Tryz.prog 123 [.pointer (some ⟨rb,0,none⟩)] [[(rb,.cells (rdC hb r).toArray 298 (0,0))]] (.int .u64 r.now):=by
 intro w hs
 refine Ca_ Tryz.func123 rfl Tryz.ntmps123 hs<|pA_ 20 ?_
 refine Le (CV fun w hw=>uLd_c rb 0 (rdC hb r) 298 r.now w rfl (hw.sat.pick (ss:=[[(rb,.cells (rdC hb r).toArray 298 (0,0))]]) pk_)) fun _ _=>pA_ 5 ?_
 exact fr_ hs
theorem inI_all (l:List Int):(l.flatMap inI).all (·.oneCell')=true:=by
 induction l with
 |nil=>rfl
 |cons f r ih=>rw[List.flatMap_cons,List.all_append,ih];rfl
theorem kOwed_g (cb wb:Nat)(c:Ckk)(hl:c.owed.length≤100)(w:World)(hs:Sat (ckS cb wb c) w):Calls Tryz.prog 118 [.pointer (some ⟨cb,0,none⟩)].toArray w fun e w'=>∃o:V.OwnO,ownOk 1 c.owed.length (c.owed.flatMap inI) o∧e= .returned (ownV c.owed.length o)∧Hp ⟨w,V.ids ((ckS cb wb c))⟩ (ownG 3 (c.owed.flatMap inI) o::(ckS cb wb c)) w':=by
 refine Cs_ (ckS cb wb c) Tryz.func118 rfl Tryz.ntmps118 hs<|Sq<|Rg<|Lv Av<|Nl<|Ps<|Sq<|Sq<|Rg<|Lv Mv<|Lv EP<|Nl<|Ps<|Cf<|Sk<|Ps<|Sq<|Rg<|Le (Eff.buildSlice0 Tryz.underlying24 Tryz.sizeOf3) fun b5 _=>Lv Mv<|Lv Nz<|Lv (Fa 3 24)<|Lv (Ld (v:= .slice (some ⟨wb,0,none⟩) c.owed.length c.owed.length))<|Le (Eff.appendAny (c.owed.flatMap inI) (sz:=1) (bytes:=8) (z:= .int .i64 0) (xs:=[]) (m0:=0) (o:=some (b5,[],0)) (m:=c.owed.length) (pk:=[ownG 3 [] (some (b5,[],0))]) rfl rfl Tryz.underlying24 kr_ rfl om_ pk_ (by simp) ⟨rfl,rfl⟩ (V.flatMap_len inI_len _) (fun hm0=>⟨wb,0,rfl,fun w1 hw1=>V.range_of_block (o:=0) (cs:=c.owed.flatMap inI) (r:=[]) (hw1.own _ (show InS (wb,.cells (c.owed.flatMap inI).toArray 3 (0,0)) _ from in_).mem) (by simp)⟩) (inI_all _) om_ om_) fun o2 ho2=>?_
 have h2:ownOk 1 c.owed.length (c.owed.flatMap inI) o2:=by simpa using ho2
 rw[List.nil_append,Nat.zero_add]
 refine pA_ 5 ?_
 exact fi_ o2 h2
end
section
attribute [local irreducible] V.CW V.LW V.QW V.RW V.PQ V.Val V.Eff V.Qcall
open V (str byC ownV ownG ownS ownOk)
theorem rvalue_g (a:RAw)(r:ROv)(x:DvR)(v:Dev)(l:Lk)(kind:Int)(hl: -1000000≤l.line∧l.line≤1000000):Rx Tryz.prog 169 [.pointer (some ⟨a.ab,0,none⟩),.agg (lkC l).toArray,.int .i64 kind] ([(a.ab,.cells (raC a x.db r).toArray 162 (0,0))]::rvS3 x v) (.tuple #[str (if valK v.D l kind=true then(valB v.D l).val else[]),.bool (valK v.D l kind)]):=by
 intro w hs
 have hsp8:=span_le l.cls
 have hln:=linesL_le v.D l.line
 refine Ca_ Tryz.func169 rfl Tryz.ntmps169 hs<|Sq<|Rg<|Le XA fun b4 _=>pA_ 16 ?_
 refine V.CW.addOwn 5<|loopA (γ:=Nat×V.OwnO) (fun k=>[(0,.pointer (some ⟨a.ab,0,none⟩)),(2,.int .i64 kind),(4,.pointer (some ⟨b4,0,none⟩)),(8,ownV (linesL v.D l.line k.1).length k.2),(9,.int .i64 (k.1:Nat))]) (fun k=>ownG 5 (byC ((linesL v.D l.line k.1))) (k.2)::[(b4,.cells (lkC l).toArray 165 (0,0))]::([(a.ab,.cells (raC a x.db r).toArray 162 (0,0))]::rvS3 x v)) (fun k=>k.1≤spanF l.cls∧ownOk 1 (linesL v.D l.line k.1).length (byC (linesL v.D l.line k.1)) k.2) (fun k=>spanF l.cls-k.1) ((0,none)) ⟨Nat.zero_le _,rfl,rfl⟩ fun k=>?_
 rintro⟨hk1,hk2⟩
 refine pA_ 5 ?_
 refine Lv (Ld (v:= .int .i64 l.cls))<|Le (Cz_ (rspan_c l.cls)) fun _ _=>pA_ 3 ?_
 refine Cd_ rfl (fun h18=>?_) fun h18=>?_
 ·have hk9:k.1<spanF l.cls:=by omega
  have hlk:=hln k.1
  refine pA_ 5 ?_
  refine Dr ([[(a.ab,.cells (raC a x.db r).toArray 162 (0,0))],[(b4,.cells (lkC l).toArray 165 (0,0))]])<|pR_ [0,1,2] ?_
  refine Rv 3 rfl (Ld (v:= .pointer (some ⟨x.db,0,none⟩)))<|Rv 4 rfl (Fa 3 3)<|Rv 5 rfl (Ld (v:= .int .i64 l.line))<|pR_ [6,7] ?_
  refine Re 8 rfl (Cm_ (rload_g x v.D v.k (l.line+(k.1:Nat)))) fun o2 ho2=>?_
  have hn2:=nowL_le v.D (l.line+(k.1:Nat))
  obtain⟨p2,cp2,hv2,hc2,hsl2,hsr2⟩:=own_src2 (T:=125) ho2
  refine RW.re 30 (.tuple #[.slice p2 (nowL v.D (l.line+(k.1:Nat))).length cp2,.int .i64 (er2 (inD v.D.length (l.line+(k.1:Nat))))]) rfl (by rw[hv2])<|pR_ [9,10,11,12,13] ?_
  refine pA_ 5 ?_
  refine Le (Eff.appendAny (byC (nowL v.D (l.line+(k.1:Nat)))) (sz:=1) (bytes:=1) (z:= .int .u8 0) (xs:=byC (linesL v.D l.line k.1)) (m0:=(linesL v.D l.line k.1).length) (o:=k.2) (m:=(nowL v.D (l.line+(k.1:Nat))).length) (pk:=[ownG 5 (byC ((linesL v.D l.line k.1))) (k.2)]) rfl rfl Tryz.underlying54 kr_ rfl om_ pk_ (by simp) hk2 (by rw[V.byC_len];omega) (fun hm0=>by obtain⟨g,hg1,hg2⟩:=hsr2 hm0;exact⟨g,0,hg1,fun w1 hw1=>hg2 hw1 pk_⟩) (V.byC_one _) om_ om_) fun o3 ho3=>?_
  rw[← V.byC_append,← linesL_succ,← List.length_append,← linesL_succ] at ho3⊢
  refine pA_ 9 ?_
  exact roundA ((k.1+1,o3)) ⟨by simp only;omega,ho3⟩ (by simp only;omega)
 ·have hk9:k.1=spanF l.cls:=by omega
  rw[hk9] at hk2⊢
  obtain⟨p3,cp3,hv3,hc3,hsl3⟩:=own_srcT (T:=5) hk2
  refine pA_ 8 ?_
  refine LW.re 37 (.slice p3 (linesL v.D l.line (spanF l.cls)).length cp3) rfl hv3<|Le (CV fun w hw=>rdecode_c (linesL v.D l.line (spanF l.cls)) p3 cp3 (by have:=hln (spanF l.cls);omega) hc3 w (hsl3 hw pk_)) fun _ _=>pA_ 3 ?_
  refine Le AA fun b12 _=>LeN (StW (cs:=blC (valB v.D l))) fun _ _=>pA_ 9 ?_
  refine LW.split (d:=43) rfl (fun h43=>?_) (fun h43=>?_)
  ·replace h43:=bT h43
   refine pA_ 38 ?_
   have hk9:valK v.D l kind=false:=by unfold valK;simp_all
   rw[hk9]
   exact fr_ hs
  ·replace h43:=bF h43
   refine Lv (Fa 1 3)<|Lv (Ld (v:= .int .i64 (valB v.D l).kind))<|pA_ 4 ?_
   refine LW.split (d:=49) rfl (fun h49=>?_) (fun h49=>?_)
   ·replace h49:=bT h49
    refine pA_ 32 ?_
    have hk9:valK v.D l kind=false:=by unfold valK;simp_all
    rw[hk9]
    exact fr_ hs
   ·replace h49:=bF h49
    refine Lv (Fa 2 22)<|Lv (Ld (v:= .int .u64 (valB v.D l).id))<|Lv (Fa 1 22)<|Lv (Ld (v:= .int .u64 l.id))<|pA_ 3 ?_
    refine LW.split (d:=56) rfl (fun h56=>?_) (fun h56=>?_)
    ·replace h56:=bT h56
     refine pA_ 25 ?_
     have hk9:valK v.D l kind=false:=by unfold valK;simp_all
     rw[hk9]
     exact fr_ hs
    ·replace h56:=bF h56
     refine Lv (Fa 3 22)<|Lv (Ld (v:= .int .u64 (valB v.D l).ver))<|Lv (Fa 2 22)<|Lv (Ld (v:= .int .u64 l.ver))<|pA_ 3 ?_
     refine LW.split (d:=63) rfl (fun h63=>?_) (fun h63=>?_)
     ·replace h63:=bT h63
      refine pA_ 18 ?_
      have hk9:valK v.D l kind=false:=by unfold valK;simp_all
      rw[hk9]
      exact fr_ hs
     ·replace h63:=bF h63
      refine Lv (Fa 5 9)<|Lv (Ld (v:=str (valB v.D l).key))<|Lv (Fa 0 9)<|Lv (Ld (v:=str l.key))<|pA_ 4 ?_
      refine Cd_ rfl (fun h69=>?_) fun h69=>?_
      ·refine pA_ 9 ?_
       have hk9:valK v.D l kind=false:=by unfold valK;simp_all
       rw[hk9]
       exact fr_ hs
      ·refine pA_ 5 ?_
       refine Lv (Ld (v:=str (valB v.D l).val))<|pA_ 6 ?_
       have hk9:valK v.D l kind=true:=by unfold valK;simp_all
       rw[hk9]
       exact fr_ hs
end
end G
end Go.Proofs.YteejleakfbnpcaaGreat
