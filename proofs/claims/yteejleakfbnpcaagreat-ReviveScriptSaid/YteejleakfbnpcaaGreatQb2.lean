import Derived.Test.YteejleakfbnpcaaGreatQb1
/- What the law leans on, part 6c. -/
namespace Go.Proofs.YteejleakfbnpcaaGreat
open Go Go.RowKit V
set_option linter.unusedVariables false
set_option maxRecDepth 100000
set_option maxHeartbeats 1000000
namespace G
section
attribute [local irreducible] V.CW V.LW V.QW V.RW V.PQ V.Val V.Eff V.Qcall
open V (str byC ownV ownG ownS ownOk)
instance:Cal Tryz.prog 52:=⟨Tryz.call52⟩
instance:Cal Tryz.prog 53:=⟨Tryz.call53⟩
instance:Cal Tryz.prog 54:=⟨Tryz.call54⟩
theorem rlines_g (x x2:DvR)(D:List Ce)(k k2:Cnt)(hD:D.length≤1000):Rx Tryz.prog 15 [.pointer (some ⟨x.db,0,none⟩),.pointer (some ⟨x2.db,0,none⟩)] (dvS x D k++rdvS x2 D k2) (.bool true):=by
 intro w hs
 refine Ca_ Tryz.func15 rfl Tryz.ntmps15 hs<|pA_ 7 ?_
 refine Qt<|Qv Mv<|Qc (QV fun w hw=>lines_g x.db D.length x.cap (some ⟨x.cb,0,none⟩) (ctC k) w hw.at)<|pA_ 3 ?_
 refine Qv (Ld (v:= .slice (some ⟨x2.cb,0,none⟩) D.length x2.cap))<|Qv Ln<|Qv Cm<|QW.re 21 (.bool false) rfl (by simp)<|pA_ 12 ?_
 refine loopA (γ:=Nat) (fun i=>[(0,.pointer (some ⟨x.db,0,none⟩)),(1,.pointer (some ⟨x2.db,0,none⟩)),(5,.int .i64 (i:Nat))]) (fun _=>(dvS x D k++rdvS x2 D k2)) (fun i=>i≤D.length) (fun i=>D.length-i) (0) (Nat.zero_le _) fun i hi1=>pA_ 7 ?_
 refine Lv (Ld (v:= .slice (some ⟨x2.cb,0,none⟩) D.length x2.cap))<|pA_ 4 ?_
 refine Cd_ rfl (fun h28=>?_) fun h28=>?_
 ·refine pA_ 8 ?_
  refine Le (CM [] fun w hw hs0=>load_g x D k (i:Nat) w (hw.sat.pick (ss:=dvS x D k) pk_)) fun o1 ho1=>?_
  obtain⟨p1,c1,hv1,_,hs1⟩:=own_srcT (T:=5) ho1
  refine pA_ 11 ?_
  refine Le (Cm_ (rload_g x2 D k2 (i:Nat))) fun o2 ho2=>?_
  obtain⟨p2,c2,hv2,_,hs2⟩:=own_srcT (T:=125) ho2
  refine pA_ 11 ?_
  refine Le (CM [] fun w hw hs0=>dur_g x D k (i:Nat) w (hw.sat.pick (ss:=dvS x D k) pk_)) fun o3 ho3=>?_
  obtain⟨p3,c3,hv3,_,hs3⟩:=own_srcT (T:=5) ho3
  refine pA_ 11 ?_
  refine Le (Cm_ (rdur_g x2 D k2 (i:Nat))) fun o4 ho4=>?_
  obtain⟨p4,c4,hv4,_,hs4⟩:=own_srcT (T:=125) ho4
  refine pA_ 10 ?_
  refine LW.re 55 (.slice p1 (nowL D (i:Nat)).length c1) rfl hv1<|Lv Mv<|LW.re 56 (.slice p2 (nowL D (i:Nat)).length c2) rfl hv2<|Le (CV fun w hw=>same_g (nowL D (i:Nat)) (nowL D (i:Nat)) p1 p2 c1 c2 w (hs1 hw pk_) (hs2 hw pk_)) fun _ _=>LW.re 57 (.bool true) rfl (by simp)<|pA_ 3 ?_
  refine LW.re 60 (.slice p3 (keptL D (i:Nat)).length c3) rfl hv3<|Lv Mv<|LW.re 61 (.slice p4 (keptL D (i:Nat)).length c4) rfl hv4<|Le (CV fun w hw=>same_g (keptL D (i:Nat)) (keptL D (i:Nat)) p3 p4 c3 c4 w (hs3 hw pk_) (hs4 hw pk_)) fun _ _=>LW.re 62 (.bool true) rfl (by simp)<|pA_ 13 ?_
  exact roundA (i+1) om_ om_
 ·refine pA_ 12 ?_
  exact fr_ hs
end
section
attribute [local irreducible] V.CW V.LW V.QW V.RW V.PQ V.Val V.Eff V.Qcall
open V (str byC ownV ownG ownS ownOk)
def rwA (x2:DvR)(v:Dev)(th:Nat)(c:RCo):Option (RAw×ROv)→Sg
 |none=>rvS3 x2 v
 |some y=>raS y.1 x2.db th (slabsF v.D.length) c.e y.2 (rvS3 x2 v)
abbrev rwG (wb:Nat)(x2:DvR)(v:Dev)(th:Nat)(c:RCo)(lo:V.OwnO)(q:Option (RAw×ROv)):Sg:=[(wb,.cells (rv3 x2.db (th:Nat) c lo (q.map fun y=>⟨y.1.ab,0,none⟩)).toArray 43 (0,0))]::ownG 97 (c.l.flatMap fdC) lo::rwA x2 v th c q
structure RwX (n:Nat)(c:RCo)(lo:V.OwnO)(q:Option (RAw×ROv)):Prop where
 lo:ownOk 9 c.l.length (c.l.flatMap fdC) lo
 has:q.isSome=decide (c.ph=6)
 got:∀y,q=some y→rovAll (slabsF n).toNat rov0 (decK c.e c.l)=some y.2∧RaOk y.1 y.2∧RLen y.2 1000
theorem rstp_ph {v:Dev}{c:RCo}(h0:0≤c.ph)(h4:c.ph≤4):(rstp v c).2.1.ph≠6:=by
 unfold rstp rwp
 split
 ·simp only;split<;>simp
 split
 ·simp only;split<;>omega
 split
 ·simp only;split<;>simp
 split
 ·split<;>simp only<;>omega
 split
 ·split<;>simp only<;>omega
 omega
theorem fd_rise {D0:List Ce}{n:Nat}{v:Dev}{c:Cor}(hI:Inv n v c)(hC:Cln D0 v c)(h6:c.ph≤6)(e:Int):rising c.fd∧kindOk e c.fd:=by
 have h0:=hI.ph
 by_cases hp:c.ph=0
 ·have h8:=List.eq_nil_of_length_eq_zero (hI.f0 hp)
  rw[h8]
  exact⟨.nil,fun f hf=>absurd hf (by simp)⟩
 by_cases hp1:c.ph=1
 ·rw[hC.f1 hp1]
  exact⟨fds_rise _ _,fds_kind _ _ _⟩
 ·rw[hC.f2 om_ h6]
  exact⟨fds_rise _ _,fds_kind _ _ _⟩
theorem rwstep_g (wb:Nat)(x2:DvR)(v:Dev)(th:Nat)(c:RCo)(lo:V.OwnO)(q:Option (RAw×ROv))(cc:Cor)(D0:List Ce)(h1:1≤th)(h4:th≤4)(hI:Inv v.D.length v cc)(hC:Cln D0 v cc)(hR:Rel cc c)(h7:cc.ph≤7)(hm:10≤v.D.length∧v.D.length≤258)(hX:RwX v.D.length c lo q)(w:World)(hs:Sat (rwG wb x2 v th c lo q) w):Calls Tryz.prog 13 [.pointer (some ⟨wb,0,none⟩)].toArray w fun e w'=>∃z:V.OwnO×Option (RAw×ROv),RwX v.D.length (rstp v c).2.1 z.1 z.2∧e= .returned (.int .i64 (rstp v c).2.2)∧Hp ⟨w,V.ids (rwG wb x2 v th c lo q)⟩ (rwG wb x2 (rstp v c).1 th (rstp v c).2.1 z.1 z.2) w':=by
 have hph:=hR.ph
 have hp0:=hI.ph
 by_cases h6:6≤c.ph
 ·have e:rstp v c=(v,c,12):=by
   unfold rstp
   rw[if_neg om_,if_neg om_,if_neg om_,if_neg om_,if_neg om_,if_neg om_]
  refine(rst6_g wb x2.db (th:Nat) c lo (q.map fun y=>⟨y.1.ab,0,none⟩) om_ w (hs.pick pk_)).mono fun e' w' ⟨_,_,he,hw⟩=>?_
  rw[e]
  exact⟨(lo,q),hX,he,(V.Hp.start hs).call_ro (hw.ro pk_ (hs.pick pk_))⟩
 have hq:q=none:=by
  have h8:=hX.has
  rw[decide_eq_false om_] at h8
  cases q with
  |none=>rfl
  |some y=>cases h8
 subst hq
 obtain⟨hri,hkd⟩:=fd_rise hI hC om_ c.e
 rw[← hR.l] at hri hkd
 have hfl:=hI.fl
 have hl:c.l.length≤1000:=by rw[hR.l];omega
 have tx:∀f∈c.l,fdOk f:=by rw[hR.l];exact hI.tx
 have fin:c.ph≤4→(∀(e:Ending) (w':World),(∃lo':V.OwnO,ownOk 9 (rstp v c).2.1.l.length ((rstp v c).2.1.l.flatMap fdC) lo'∧e= .returned (.int .i64 (rstp v c).2.2)∧Hp ⟨w,V.ids (st3 wb x2 v th c lo none)⟩ (st3 wb x2 (rstp v c).1 th (rstp v c).2.1 lo' none) w')→∃z:V.OwnO×Option (RAw×ROv),RwX v.D.length (rstp v c).2.1 z.1 z.2∧e= .returned (.int .i64 (rstp v c).2.2)∧Hp ⟨w,V.ids (rwG wb x2 v th c lo none)⟩ (rwG wb x2 (rstp v c).1 th (rstp v c).2.1 z.1 z.2) w'):=by
  intro h8 e w' ⟨lo',ho,he,hw⟩
  exact⟨(lo',none),⟨ho,by rw[decide_eq_false (rstp_ph om_ h8)];rfl,fun y h=>by cases h⟩,he,hw⟩
 by_cases g0:c.ph=0
 ·exact Calls.mono (rst0_g wb x2 v th c lo none hm hX.lo g0 w hs) (fin om_)
 by_cases g1:c.ph=1
 ·have hnx:0≤c.nx∧c.nx≤1000:=by
   have h8:=hR.nx om_
   have h9:=hI.nx
   have h10:=(hI.n2 om_).1
   have h11:=slabs_lt v.D.length
   omega
  exact Calls.mono (rst1_g wb x2 v th c lo none hm hX.lo hl g1 hnx w hs) (fin om_)
 have he:0≤c.e∧c.e≤1152921504606846976:=by rw[hR.e];exact(hI.op om_ om_).2
 by_cases g2:c.ph=2
 ·exact Calls.mono (rst2_g wb x2 v th c lo none hm hX.lo hl hri hkd tx ⟨h1,h4⟩ he g2 w hs) (fin om_)
 by_cases g3:c.ph=3
 ·exact Calls.mono (rst3_g wb x2 v th c lo none hm hX.lo hl hri hkd tx g3 w hs) (fin om_)
 by_cases g4:c.ph=4
 ·exact Calls.mono (rst4_g wb x2 v th c lo none hm hX.lo hl hri hkd tx g4 w hs) (fin om_)
 have g5:c.ph=5:=by omega
 have hz:ovE v.D.length (decK c.e c.l)=0:=by
  obtain⟨k1,k2⟩:=hI.kp om_ om_
  rw[hR.e,hR.l,← k1]
  exact k2
 have e:rstp v c=(v,{c with ph:=6},0):=by
  unfold rstp
  rw[if_neg om_,if_neg om_,if_neg om_,if_neg om_,if_neg om_,if_pos g5]
 refine(rst5_g wb x2 v th c lo none hm hX.lo hl hri hkd tx ⟨h1,h4⟩ he g5 hz w hs).mono fun e' w' ⟨z,z1,z2,z3,he',hw⟩=>?_
 rw[e]
 refine⟨(lo,some z),⟨hX.lo,by simp,fun y hy=>by obtain rfl:=Option.some.inj hy;exact⟨z1,z2,z3⟩⟩,he',?_⟩
 refine hw.perm ?_
 show _root_.List.Perm _ (List.flatten (_::_::(raS z.1 x2.db th (slabsF v.D.length) c.e z.2 []++rvS3 x2 v)))
 simp only[List.flatten_cons,List.flatten_append,List.append_assoc]
 exact .refl _
end
end G
end Go.Proofs.YteejleakfbnpcaaGreat
namespace Go.Proofs.YteejleakfbnpcaaGreat
open Go Go.RowKit V
set_option linter.unusedVariables false
set_option maxRecDepth 100000
set_option maxHeartbeats 400000
namespace G
section
attribute [local irreducible] V.CW V.LW V.QW V.RW V.PQ V.Val V.Eff V.Qcall
open V (str byC ownV ownG ownS ownOk)
instance:Cal Tryz.prog 45:=⟨Tryz.call45⟩
instance:Cal Tryz.prog 46:=⟨Tryz.call46⟩
instance:Cal Tryz.prog 47:=⟨Tryz.call47⟩
instance:Cal Tryz.prog 48:=⟨Tryz.call48⟩
theorem alikeT_g (rb wb:Nat)(x x2:DvR)(v:Dev)(r:Rvl)(th:Nat)(cnx:Int)(cdn:Nat)(lo:V.OwnO)(hlo:ownOk 9 r.fd.length (r.fd.flatMap fdC) lo)(hfo:ownOk 9 r.fd.length (r.fd.flatMap fdC) r.fo)(hko:ownOk 9 r.kp.length (r.kp.flatMap fdC) r.ko)(hfl:r.fd.length≤1000)(hkl:r.kp.length≤1000)(hri:rising r.fd)(hkd:kindOk r.e r.fd)(hn6:r.ph≠6)(hkp3:r.kp=r.fd.filter (keepF r.e r.fd)):Rx Tryz.prog 14 [.pointer (some ⟨rb,0,none⟩),.pointer (some ⟨wb,0,none⟩)] (rvS rb x.db r++(vS x v++([(wb,.cells (rv3 x2.db (th:Nat) (⟨r.ph,r.e,r.fd,cnx,cdn,true⟩:RCo) lo none).toArray 43 (0,0))]::ownG 97 (r.fd.flatMap fdC) lo::rvS3 x2 v))) (.bool true):=by
 intro w hs
 obtain⟨pl,cl,hvl,hsl⟩:=own_slF r.fd lo hlo
 refine Ca_ Tryz.func14 rfl Tryz.ntmps14 hs<|pA_ 16 ?_
 refine Lv (Ld (v:= .bool true))<|pA_ 5 ?_
 refine Le (Cm_ (rall_g wb x2.db (th:Nat) (⟨r.ph,r.e,r.fd,cnx,cdn,true⟩:RCo) lo none hfl hlo hri hkd)) fun o3 ho3=>?_
 obtain⟨p3,c3,hv3,hs3⟩:=own_slF (r.fd.filter (keepF r.e r.fd)) o3 ho3
 refine pA_ 6 ?_
 refine Le (CV fun w hw=>arena2_g rb x.db r w hw.at) fun _ _=>Lv Mv<|Lv Ex<|LW.re 17 (.pointer none) rfl (by rw[if_neg hn6])<|Lv Ex<|LW.re 18 (.bool false) rfl (by rw[decide_eq_false hn6])<|pA_ 6 ?_
 refine Dr ([[(wb,.cells (rv3 x2.db (th:Nat) (⟨r.ph,r.e,r.fd,cnx,cdn,true⟩:RCo) lo none).toArray 43 (0,0))]])<|pR_ [0,2,3,4] ?_
 refine Rv 5 rfl (Ld (v:= .int .i64 r.ph))<|Re 1 rfl (CV fun w hw=>phase_g rb x.db r w hw.at) fun _ _=>Rv 6 rfl Cm<|RW.re 25 (.bool false) rfl (by simp)<|pR_ [7,8,10,11,12] ?_
 refine Rv 13 rfl (Ld (v:= .int .u64 r.e))<|Re 9 rfl (CV fun w hw=>epoch_g rb x.db r w hw.at) fun _ _=>Rv 14 rfl Cm<|RW.re 33 (.bool false) rfl (by simp)<|pR_ [15,16,17,19,20,21] ?_
 refine Rv 22 rfl (Ld (v:=ownV r.fd.length lo))<|RW.re 41 (.slice pl r.fd.length cl) rfl hvl<|Re 18 rfl (Cm_ (found_g rb x.db r hfo hfl)) fun o1 ho1=>?_
 obtain⟨p1,c1,hv1,hs1⟩:=own_slF r.fd o1 ho1
 refine RW.re 37 (.slice p1 r.fd.length c1) rfl hv1<|Re 23 rfl (CV fun w hw=>sameFound_c r.fd om_ p1 pl c1 cl w (hs1 hw pk_) (hsl hw pk_)) fun _ _=>pR_ [24,25,26,27,29] ?_
 refine RW.re 48 (.slice p3 r.kp.length c3) rfl (by rw[hkp3];exact hv3)<|Re 28 rfl (Cm_ (kept_g rb x.db r hko hkl)) fun o2 ho2=>?_
 obtain⟨p2,c2,hv2,hs2⟩:=own_slF r.kp o2 ho2
 refine RW.re 47 (.slice p2 r.kp.length c2) rfl hv2<|Re 30 rfl (CV fun w hw=>sameFound_c r.kp om_ p2 p3 c2 c3 w (hs2 hw pk_) (by rw[hkp3];exact hs3 hw pk_)) fun _ _=>pR_ [31,32,33,34,35,36,37] ?_
 refine Rv 38 rfl (Ld (v:= .pointer none))<|Rv 39 rfl (Val.neP true rfl rfl Tryz.underlying41 (.inl ⟨rfl,rfl⟩))<|RW.re 58 (.bool false) rfl (by simp)<|Rv 40 rfl (Val.neB rfl rfl Tryz.underlying4)<|RW.re 59 (.bool false) rfl (by simp)<|pR_ [41,42,43] ?_
 refine Rv 44 rfl (Val.eqP true rfl rfl Tryz.underlying60 (.inl ⟨rfl,rfl⟩))<|RW.re 63 (.bool true) rfl (by simp)<|pR_ [45,46,47] ?_
 refine Rv 48 rfl (Ld (v:= .pointer none))<|Rv 49 rfl (Val.eqP true rfl rfl Tryz.underlying41 (.inl ⟨rfl,rfl⟩))<|RW.re 68 (.bool true) rfl (by simp)<|Rv 50 rfl (Val.neB rfl rfl Tryz.underlying4)<|RW.re 69 (.bool false) rfl (by simp)<|Rv 51 rfl Pf<|pA_ 10 ?_
 refine Lv (Ld (v:= .pointer none))<|Lv (Val.eqP true rfl rfl Tryz.underlying41 (.inl ⟨rfl,rfl⟩))<|LW.re 75 (.bool true) rfl (by simp)<|pA_ 13 ?_
 exact fr_ hs
theorem alikeF_g (rb wb:Nat)(x x2:DvR)(v:Dev)(r:Rvl)(th:Nat)(cnx:Int)(cdn:Nat)(lo:V.OwnO)(hlo:ownOk 9 r.fd.length (r.fd.flatMap fdC) lo)(hfo:ownOk 9 r.fd.length (r.fd.flatMap fdC) r.fo)(hko:ownOk 9 r.kp.length (r.kp.flatMap fdC) r.ko)(hfl:r.fd.length≤1000)(hkl:r.kp.length≤1000)(hn6:r.ph≠6)(hkp3:r.kp=[]):Rx Tryz.prog 14 [.pointer (some ⟨rb,0,none⟩),.pointer (some ⟨wb,0,none⟩)] (rvS rb x.db r++(vS x v++([(wb,.cells (rv3 x2.db (th:Nat) (⟨r.ph,r.e,r.fd,cnx,cdn,false⟩:RCo) lo none).toArray 43 (0,0))]::ownG 97 (r.fd.flatMap fdC) lo::rvS3 x2 v))) (.bool true):=by
 intro w hs
 obtain⟨pl,cl,hvl,hsl⟩:=own_slF r.fd lo hlo
 refine Ca_ Tryz.func14 rfl Tryz.ntmps14 hs<|pA_ 16 ?_
 refine Lv (Ld (v:= .bool false))<|pA_ 8 ?_
 refine Le (CV fun w hw=>arena2_g rb x.db r w hw.at) fun _ _=>Lv Mv<|Lv Ex<|LW.re 17 (.pointer none) rfl (by rw[if_neg hn6])<|Lv Ex<|LW.re 18 (.bool false) rfl (by rw[decide_eq_false hn6])<|pA_ 6 ?_
 refine Dr ([[(wb,.cells (rv3 x2.db (th:Nat) (⟨r.ph,r.e,r.fd,cnx,cdn,false⟩:RCo) lo none).toArray 43 (0,0))]])<|pR_ [0,2,3,4] ?_
 refine Rv 5 rfl (Ld (v:= .int .i64 r.ph))<|Re 1 rfl (CV fun w hw=>phase_g rb x.db r w hw.at) fun _ _=>Rv 6 rfl Cm<|RW.re 25 (.bool false) rfl (by simp)<|pR_ [7,8,10,11,12] ?_
 refine Rv 13 rfl (Ld (v:= .int .u64 r.e))<|Re 9 rfl (CV fun w hw=>epoch_g rb x.db r w hw.at) fun _ _=>Rv 14 rfl Cm<|RW.re 33 (.bool false) rfl (by simp)<|pR_ [15,16,17,19,20,21] ?_
 refine Rv 22 rfl (Ld (v:=ownV r.fd.length lo))<|RW.re 41 (.slice pl r.fd.length cl) rfl hvl<|Re 18 rfl (Cm_ (found_g rb x.db r hfo hfl)) fun o1 ho1=>?_
 obtain⟨p1,c1,hv1,hs1⟩:=own_slF r.fd o1 ho1
 refine RW.re 37 (.slice p1 r.fd.length c1) rfl hv1<|Re 23 rfl (CV fun w hw=>sameFound_c r.fd om_ p1 pl c1 cl w (hs1 hw pk_) (hsl hw pk_)) fun _ _=>pR_ [24,25,26,27,29] ?_
 refine RW.re 48 (.slice none r.kp.length 0) rfl (by rw[hkp3];rfl)<|Re 28 rfl (Cm_ (kept_g rb x.db r hko hkl)) fun o2 ho2=>?_
 obtain⟨p2,c2,hv2,hs2⟩:=own_slF r.kp o2 ho2
 refine RW.re 47 (.slice p2 r.kp.length c2) rfl hv2<|Re 30 rfl (CV fun w hw=>sameFound_c r.kp om_ p2 none c2 0 w (hs2 hw pk_) (by rw[hkp3];exact slAt_nil)) fun _ _=>pR_ [31,32,33,34,35,36,37] ?_
 refine Rv 38 rfl (Ld (v:= .pointer none))<|Rv 39 rfl (Val.neP true rfl rfl Tryz.underlying41 (.inl ⟨rfl,rfl⟩))<|RW.re 58 (.bool false) rfl (by simp)<|Rv 40 rfl (Val.neB rfl rfl Tryz.underlying4)<|RW.re 59 (.bool false) rfl (by simp)<|pR_ [41,42,43] ?_
 refine Rv 44 rfl (Val.eqP true rfl rfl Tryz.underlying60 (.inl ⟨rfl,rfl⟩))<|RW.re 63 (.bool true) rfl (by simp)<|pR_ [45,46,47] ?_
 refine Rv 48 rfl (Ld (v:= .pointer none))<|Rv 49 rfl (Val.eqP true rfl rfl Tryz.underlying41 (.inl ⟨rfl,rfl⟩))<|RW.re 68 (.bool true) rfl (by simp)<|Rv 50 rfl (Val.neB rfl rfl Tryz.underlying4)<|RW.re 69 (.bool false) rfl (by simp)<|Rv 51 rfl Pf<|pA_ 10 ?_
 refine Lv (Ld (v:= .pointer none))<|Lv (Val.eqP true rfl rfl Tryz.underlying41 (.inl ⟨rfl,rfl⟩))<|LW.re 75 (.bool true) rfl (by simp)<|pA_ 13 ?_
 exact fr_ hs
theorem alikeS_g (rb wb:Nat)(x x2:DvR)(v:Dev)(r:Rvl)(th:Nat)(cnx:Int)(cdn:Nat)(lo:V.OwnO)(hlo:ownOk 9 r.fd.length (r.fd.flatMap fdC) lo)(hfo:ownOk 9 r.fd.length (r.fd.flatMap fdC) r.fo)(hko:ownOk 9 r.kp.length (r.kp.flatMap fdC) r.ko)(hfl:r.fd.length≤1000)(hkl:r.kp.length≤1000)(hri:rising r.fd)(hkd:kindOk r.e r.fd)(y:ArR×ArS)(z:RAw×ROv)(h6:r.ph=6)(hst:r.st= .pointer (some ⟨y.1.a,0,none⟩))(hkp3:r.kp=r.fd.filter (keepF r.e r.fd))(hK:Alk th r.e y.2 z.2)(hA:ArOk th v.D.length y.1 y.2)(hO:RaOk z.1 z.2)(ht:th≤100)(hP:(pairsOf v.D z.2.tl).length≤100000)(hQ:(textsOf v.D z.2.q).length≤100000):Rx Tryz.prog 14 [.pointer (some ⟨rb,0,none⟩),.pointer (some ⟨wb,0,none⟩)] (rvS rb x.db r++(arS y.1 y.2 x.db++(vS x v++([(wb,.cells (rv3 x2.db (th:Nat) (⟨r.ph,r.e,r.fd,cnx,cdn,true⟩:RCo) lo (some ⟨z.1.ab,0,none⟩)).toArray 43 (0,0))]::ownG 97 (r.fd.flatMap fdC) lo::raS z.1 x2.db th (slabsF v.D.length) r.e z.2 (rvS3 x2 v))))) (.bool true):=by
 intro w hs
 obtain⟨pl,cl,hvl,hsl⟩:=own_slF r.fd lo hlo
 refine Ca_ Tryz.func14 rfl Tryz.ntmps14 hs<|pA_ 16 ?_
 refine Lv (Ld (v:= .bool true))<|pA_ 5 ?_
 refine Le (Cm_ (rall_g wb x2.db (th:Nat) (⟨r.ph,r.e,r.fd,cnx,cdn,true⟩:RCo) lo (some ⟨z.1.ab,0,none⟩) hfl hlo hri hkd)) fun o3 ho3=>?_
 obtain⟨p3,c3,hv3,hs3⟩:=own_slF (r.fd.filter (keepF r.e r.fd)) o3 ho3
 refine pA_ 6 ?_
 refine Le (CV fun w hw=>arena2_g rb x.db r w hw.at) fun _ _=>Lv Mv<|Lv Ex<|LW.re 17 (.pointer (some ⟨y.1.a,0,none⟩)) rfl (by rw[if_pos h6,hst])<|Lv Ex<|LW.re 18 (.bool true) rfl (by rw[decide_eq_true h6])<|pA_ 6 ?_
 refine Dr ([[(wb,.cells (rv3 x2.db (th:Nat) (⟨r.ph,r.e,r.fd,cnx,cdn,true⟩:RCo) lo (some ⟨z.1.ab,0,none⟩)).toArray 43 (0,0))]])<|pR_ [0,2,3,4] ?_
 refine Rv 5 rfl (Ld (v:= .int .i64 r.ph))<|Re 1 rfl (CV fun w hw=>phase_g rb x.db r w hw.at) fun _ _=>Rv 6 rfl Cm<|RW.re 25 (.bool false) rfl (by simp)<|pR_ [7,8,10,11,12] ?_
 refine Rv 13 rfl (Ld (v:= .int .u64 r.e))<|Re 9 rfl (CV fun w hw=>epoch_g rb x.db r w hw.at) fun _ _=>Rv 14 rfl Cm<|RW.re 33 (.bool false) rfl (by simp)<|pR_ [15,16,17,19,20,21] ?_
 refine Rv 22 rfl (Ld (v:=ownV r.fd.length lo))<|RW.re 41 (.slice pl r.fd.length cl) rfl hvl<|Re 18 rfl (Cm_ (found_g rb x.db r hfo hfl)) fun o1 ho1=>?_
 obtain⟨p1,c1,hv1,hs1⟩:=own_slF r.fd o1 ho1
 refine RW.re 37 (.slice p1 r.fd.length c1) rfl hv1<|Re 23 rfl (CV fun w hw=>sameFound_c r.fd om_ p1 pl c1 cl w (hs1 hw pk_) (hsl hw pk_)) fun _ _=>pR_ [24,25,26,27,29] ?_
 refine RW.re 48 (.slice p3 r.kp.length c3) rfl (by rw[hkp3];exact hv3)<|Re 28 rfl (Cm_ (kept_g rb x.db r hko hkl)) fun o2 ho2=>?_
 obtain⟨p2,c2,hv2,hs2⟩:=own_slF r.kp o2 ho2
 refine RW.re 47 (.slice p2 r.kp.length c2) rfl hv2<|Re 30 rfl (CV fun w hw=>sameFound_c r.kp om_ p2 p3 c2 c3 w (hs2 hw pk_) (by rw[hkp3];exact hs3 hw pk_)) fun _ _=>pR_ [31,32,33,34,35,36,37] ?_
 refine Rv 38 rfl (Ld (v:= .pointer (some ⟨z.1.ab,0,none⟩)))<|Rv 39 rfl NP<|RW.re 58 (.bool true) rfl (by simp)<|Rv 40 rfl (Val.neB rfl rfl Tryz.underlying4)<|RW.re 59 (.bool false) rfl (by simp)<|pR_ [41,42,43] ?_
 refine Rv 44 rfl EP<|RW.re 63 (.bool false) rfl (by simp)<|pR_ [45,46,47] ?_
 refine Rv 48 rfl (Ld (v:= .pointer (some ⟨z.1.ab,0,none⟩)))<|Rv 49 rfl EP<|RW.re 68 (.bool false) rfl (by simp)<|Rv 50 rfl (Val.neB rfl rfl Tryz.underlying4)<|RW.re 69 (.bool false) rfl (by simp)<|Rv 51 rfl Pf<|pA_ 10 ?_
 refine Lv (Ld (v:= .pointer (some ⟨z.1.ab,0,none⟩)))<|Lv EP<|LW.re 75 (.bool false) rfl (by simp)<|pA_ 5 ?_
 refine Lv (Ld (v:= .pointer (some ⟨z.1.ab,0,none⟩)))<|Le (Cr_ (alikeA_g y.1 y.2 x v.k z.1 x2 v th (slabsF v.D.length) r.e z.2 hK hA hO ht hP hQ)) fun _ _=>pA_ 6 ?_
 exact fr_ hs
end
end G
end Go.Proofs.YteejleakfbnpcaaGreat
namespace Go.Proofs.YteejleakfbnpcaaGreat
open Go Go.RowKit V
set_option linter.unusedVariables false
set_option maxRecDepth 100000
set_option maxHeartbeats 1000000
namespace G
section
attribute [local irreducible] V.CW V.LW V.QW V.RW V.PQ V.Val V.Eff V.Qcall
open V (str byC ownV ownG ownS ownOk)
instance:Cal Tryz.prog 27:=⟨Tryz.call27⟩
instance:Cal Tryz.prog 28:=⟨Tryz.call28⟩
instance:Cal Tryz.prog 31:=⟨Tryz.call31⟩
instance:Cal Tryz.prog 32:=⟨Tryz.call32⟩
theorem lo_notS {w0 w:World}{sg r ss:V.Sg}{b:Nat}(hw:Hp ⟨w0,[]⟩ sg w)(hp:Pick ss sg r)(hb:b<w0.heap.size):b∉V.ids ss:=by
 intro hm
 have h1:b∈(ss.flatten.map Prod.fst):=hm
 obtain⟨q,hq,rfl⟩:=List.mem_map.1 h1
 rcases(hw.pick hp).lo q hq with h2|h2
 ·simp only at h2;omega
 ·cases h2
theorem store_w (x:DvR)(v:Dev)(line at_:Int)(bs:List UInt8)(p:Option Addr)(cp:Nat)(hl:bs.length≤100000)(w:World)(hs:Sat (rvS3 x v) w)(hp:V.slAt w p 1 byE bs)(hpd:0<bs.length→∀b o,p=some ⟨b,o,none⟩→b∉V.ids (rvS3 x v)):Calls Tryz.prog 29 [.pointer (some ⟨x.db,0,none⟩),.int .i64 line,.int .i64 at_,.slice p bs.length cp].toArray w fun e w'=>∃_u:Unit,True∧e= .returned (.int .i64 (er2 (thB v.D.length line at_ bs.length)))∧Hp ⟨w,V.ids (rvS3 x v)⟩ (rvS3 x (v.store line at_ bs)) w':=
 rstore_gc x v.D v.k line at_ bs p cp hl w hs hp hpd
theorem back_w (x:DvR)(v:Dev)(line:Int)(w:World)(hs:Sat (rvS3 x v) w):Calls Tryz.prog 32 [.pointer (some ⟨x.db,0,none⟩),.int .i64 line].toArray w fun e w'=>∃_u:Unit,True∧e= .returned (.int .i64 (er2 (inD v.D.length line)))∧Hp ⟨w,V.ids (rvS3 x v)⟩ (rvS3 x (v.back line)) w':=
 rback_g x v.D v.k line w hs
theorem store_partw (x:DvR)(v:Dev)(line:Int)(b:Blk)(k:Nat)(hm:mayF b=true)(hk:k<spanF b.cls)(be ce:Nat)(hce:(encL b).length≤ce)(w:World)(hs:Sat (rvS3 x (layN v line (encL b) k)) w)(hsl:V.slAt w (some ⟨be,0,none⟩) 1 byE (encL b))(hnd:be∉V.ids (rvS3 x (layN v line (encL b) k))):Calls Tryz.prog 29 [.pointer (some ⟨x.db,0,none⟩),.int .i64 (IntKind.i64.wrap (line+(k:Nat))),.int .i64 0,.slice (some ⟨be,64*k,none⟩) 64 (ce-64*k)].toArray w fun e w'=>∃_u:Unit,True∧e= .returned (.int .i64 (er2 (thB (layN v line (encL b) k).D.length (IntKind.i64.wrap (line+(k:Nat))) 0 64)))∧Hp ⟨w,V.ids (rvS3 x (layN v line (encL b) k))⟩ (rvS3 x (layN v line (encL b) (k+1))) w':=by
 have hel:=encL_len hm
 have hpl:=enc_part (v:=v) (line:=0) hm hk
 have h7:=V.slAt_part hsl (k:=64*k) om_ hce 64
 rw[if_neg om_] at h7
 have h6:V.slAt w (some ⟨be,64*k,none⟩) 1 byE (((encL b).drop (64*k)).take 64):=by simpa[Addr.add_mid] using h7
 have h8:=store_w x (layN v line (encL b) k) (IntKind.i64.wrap (line+(k:Nat))) 0 (((encL b).drop (64*k)).take 64) (some ⟨be,64*k,none⟩) (ce-64*k) (by rw[hpl];omega) w hs h6 (fun _ b q hb=>by simp only[Option.some.injEq,Addr.mk.injEq] at hb;obtain⟨rfl,_⟩:=hb;exact hnd)
 rw[hpl] at h8
 exact h8
theorem store_raww (x:DvR)(v:Dev)(y:Laid)(hm:¬mayF y.b=true)(hl:y.raw.length≤64)(w:World)(hs:Sat (rvS3 x v) w)(hsl:V.slAt w y.rp 1 byE y.raw)(hnd:∀b o,0<y.raw.length→y.rp=some ⟨b,o,none⟩→b∉V.ids (rvS3 x v)):Calls Tryz.prog 29 [.pointer (some ⟨x.db,0,none⟩),.int .i64 y.line,.int .i64 y.at_,.slice y.rp y.raw.length y.rc].toArray w fun e w'=>∃_u:Unit,True∧e= .returned (.int .i64 (er2 (thB v.D.length y.line y.at_ y.raw.length)))∧Hp ⟨w,V.ids (rvS3 x v)⟩ (rvS3 x (layV v y)) w':=by
 rw[lay_no hm]
 exact store_w x v y.line y.at_ y.raw y.rp y.rc om_ w hs hsl (fun h0 b o hb=>hnd b o h0 hb)
theorem other_g (n:Nat)(hn:10≤n∧n≤258)(clk:Int)(hck:0≤clk∧clk<18446744073709551616)(l:List Laid)(p:Option Addr)(c:Nat)(hl:largeF l=false)(w:World)(hp:LdR w p l):Calls Tryz.prog 8 [.int .i64 (n:Nat),.int .u64 clk,.slice p l.length c].toArray w fun e w'=>∃y:DvR,True∧e= .returned (.pointer (some ⟨y.db,0,none⟩))∧Hp ⟨w,[]⟩ (rvS3 y (devF n clk l)) w':=by
 obtain⟨hl1,hl2⟩:=large_no hl
 refine Cb_ Tryz.func8 rfl Tryz.ntmps8<|pA_ 8 ?_
 refine Le (CM [] fun w hw hs0=>rnewDev_g n om_ om_ w) fun x _=>pA_ 10 ?_
 refine Le (Cm_ (rformat_g x (⟨List.replicate n ce0,ct0⟩:Dev) (by show 10≤(List.replicate n ce0).length∧(List.replicate n ce0).length≤258;rw[List.length_replicate];exact hn))) fun _ _=>pA_ 6 ?_
 refine Le (Cn_ (rclock_c clk hck)) fun oc hoc=>?_
 obtain⟨pk,ck,hvk,hsk,hnk⟩:=own_by2 (T:=5) (l:=clockL clk) (y:=oc) (by rw[clockL_len];exact hoc)
 rw[clockL_len] at hvk
 refine LW.re 23 (.slice pk 64 ck) rfl hvk<|Le (CM (rvS3 x (fmtV (⟨List.replicate n ce0,ct0⟩:Dev))) fun w hw hs0=>by have h8:=store_w x (fmtV (⟨List.replicate n ce0,ct0⟩:Dev)) 1 0 (clockL clk) pk ck (by rw[clockL_len];omega) w hs0 (hsk hw pk_) (fun _=>hnk hw (show Pick (rvS3 x (fmtV (⟨List.replicate n ce0,ct0⟩:Dev))) _ _ from pk_) pk_);rw[clockL_len] at h8;exact h8) fun _ _=>pA_ 9 ?_
 generalize hV1:(fmtV (⟨List.replicate n ce0,ct0⟩:Dev)).store 1 0 (clockL clk)=v1
 refine loopA (γ:=Nat) (fun i=>[(0,.int .i64 (n:Nat)),(2,.slice p l.length c),(7,.pointer (some ⟨x.db,0,none⟩)),(9,.int .i64 (i:Nat))]) (fun i=>rvS3 x ((l.take i).foldl layV v1)) (fun i=>i≤l.length) (fun i=>l.length-i) (0) (Nat.zero_le _) fun i hi1=>pA_ 9 ?_
 refine Cd_ rfl (fun h28=>?_) fun h28=>?_
 ·have hi9:i<l.length:=by omega
  obtain⟨bb1,o1,y,hpe,hb1,hx1,hr1⟩:=V.slAt_at hp.1 rfl (k:=i) hi9
  subst hpe
  have hyl:=hl2 y (List.mem_of_getElem? hx1)
  have hyr:=hp.2 y (List.mem_of_getElem? hx1)
  have hyb:=V.rangeAt_sub (hr1 i y hx1) 1 (show(ldC y).drop 1=blC y.b++[.slice y.rp y.raw.length y.rc,.int .i64 y.at_] from rfl)
  refine pA_ 10 ?_
  refine Lv (Val.loadOA (cs:=blC y.b) rfl Tryz.isAgg53 hb1 (by simp[ids]) hyb (by exact Tryz.sizeOf53))<|Le (Cn_ (rencode_c y.b ⟨by omega,by omega⟩)) fun o ho=>?_
  obtain⟨pe,ce,hve,hce,hse,hsrc⟩:=own_src2 (T:=5) ho
  obtain⟨p8,c8,hv8,_,hn8⟩:=own_by2 (T:=5) ho
  by_cases hm:mayF y.b=true
  ·have hE:encR y.b=encL y.b:=by unfold encR;rw[if_pos hm]
   have hel:=encL_len hm
   have hsp8:=may_span hm
   have hsp9:=span_le y.b.cls
   have hpe8:p8=pe:=by
    rw[hve] at hv8
    injection hv8 with h9
    exact h9.symm
   subst hpe8
   rw[hE] at hve hce hsrc hse hn8⊢
   obtain⟨be,hbe,_⟩:=hsrc om_
   subst hbe
   rw[if_pos hm]
   refine Lv Mv<|Lv Ex<|LW.re 38 (.slice (some ⟨be,0,none⟩) (encL y.b).length ce) rfl hve<|pA_ 12 ?_
   refine loopA (γ:=Nat) (fun k=>[(0,.int .i64 (n:Nat)),(2,.slice (some ⟨bb1,o1,none⟩) l.length c),(7,.pointer (some ⟨x.db,0,none⟩)),(9,.int .i64 (i:Nat)),(10,.slice (some ⟨be,0,none⟩) (encL y.b).length ce),(11,.int .i64 0),(12,.int .i64 (k:Nat))]) (fun k=>ownG 5 (byC (encL y.b)) o::rvS3 x (layN ((l.take i).foldl layV v1) y.line (encL y.b) k)) (fun k=>k≤spanF y.b.cls) (fun k=>spanF y.b.cls-k) (0) (Nat.zero_le _) fun k hk1=>pA_ 14 ?_
   refine Cd_ rfl (fun h48=>?_) fun h48=>?_
   ·have hpl:=enc_part (v:=((l.take i).foldl layV v1)) (line:=0) hm (k:=k) om_
    refine pA_ 4 ?_
    refine Dr ([])<|pR_ [0,1,2,3,4] ?_
    refine Rv 5 rfl (Val.loadO rfl Tryz.isAgg3 hb1 (by simp[ids]) (hr1 i y hx1 0 _ rfl))<|Rv 6 rfl Mv<|Rv 7 rfl (Val.arw rfl rfl rfl)<|pR_ [8,9,10,11,12,13] ?_
    refine Rv 14 rfl (Val.slice (64*k) (64*k+64) ce rfl Tryz.underlying54 Tryz.sizeOf5 ⟨_,rfl⟩ ⟨_,rfl⟩ rfl (by simp) om_ om_ om_)<|RW.re 65 (.slice (some ⟨be,64*k,none⟩) 64 (ce-64*k)) rfl (by rw[if_neg om_];simp)<|Re 15 rfl (CM (rvS3 x (layN ((l.take i).foldl layV v1) y.line (encL y.b) k)) fun w hw hs0=>store_partw x ((l.take i).foldl layV v1) y.line y.b k hm om_ be ce hce w hs0 (hse hw (show Pick [ownG 5 (byC (encL y.b)) o] _ _ from pk_)) (hn8 hw (show Pick (rvS3 x (layN ((l.take i).foldl layV v1) y.line (encL y.b) k)) _ _ from pk_) pk_ be 0 rfl)) fun _ _=>pA_ 8 ?_
    exact roundA (k+1) om_ om_
   ·refine pA_ 20 ?_
    have e9:=(fold_up (v:=v1) hx1).trans (lay_yes hm (k:=k) om_)
    rw[← e9]
    exact roundA (i+1) om_ om_
  ·rw[if_neg hm]
   refine Lv Mv<|Lv Ex<|LW.re 38 (.slice pe (encR y.b).length ce) rfl hve<|pA_ 12 ?_
   refine CW.loopU 0<|pA_ 27 ?_
   refine Dr ([])<|pR_ [0,1,2,3,4] ?_
   refine Rv 5 rfl (Val.loadO rfl Tryz.isAgg3 hb1 (by simp[ids]) (hr1 i y hx1 0 _ rfl))<|pR_ [6,7,8,9] ?_
   refine Rv 10 rfl (Val.loadO rfl Tryz.isAgg3 hb1 (by simp[ids]) (hr1 i y hx1 9 _ rfl))<|pR_ [11,12,13,14] ?_
   refine Rv 15 rfl (Val.loadO rfl Tryz.isAgg54 hb1 (by simp[ids]) (hr1 i y hx1 8 _ rfl))<|Re 16 rfl (CM (rvS3 x ((l.take i).foldl layV v1)) fun w hw hs0=>store_raww x ((l.take i).foldl layV v1) y hm om_ w hs0 (hw.slAt hyr (by simp[ids])) (fun b q h0 hb=>lo_notS hw (show Pick (rvS3 x ((l.take i).foldl layV v1)) _ _ from pk_) (sl_at hyr h0 hb))) fun _ _=>pA_ 8 ?_
   rw[← fold_up (v:=v1) hx1]
   exact roundA (i+1) om_ om_
 ·refine pA_ 12 ?_
  obtain rfl:i=l.length:=by omega
  rw[List.take_length]
  refine loopA (γ:=Nat) (fun j=>[(0,.int .i64 (n:Nat)),(7,.pointer (some ⟨x.db,0,none⟩)),(13,.int .i64 (j:Nat))]) (fun j=>rvS3 x (backN (l.foldl layV v1) j)) (fun j=>j≤n) (fun j=>n-j) (0) (Nat.zero_le _) fun j hj1=>pA_ 8 ?_
  refine Cd_ rfl (fun h88=>?_) fun h88=>?_
  ·refine pA_ 7 ?_
   refine Le (CM (rvS3 x (backN (l.foldl layV v1) j)) fun w hw hs0=>back_w x (backN (l.foldl layV v1) j) (j:Nat) w hs0) fun _ _=>pA_ 8 ?_
   exact roundA (j+1) om_ om_
  ·refine pA_ 13 ?_
   obtain rfl:j=n:=by omega
   have e8:devF j clk l=backN (l.foldl layV v1) j:=by unfold devF;rw[hV1]
   rw[e8]
   exact fi_ x trivial
end
section
attribute [local irreducible] V.CW V.LW V.QW V.RW V.PQ V.Val V.Eff V.Qcall
open V (str byC ownV ownG ownS ownOk)
theorem rcut_gc (x:DvR)(D:List Ce)(k:Cnt)(keep:List Int)(p:Option Addr)(cp:Nat)(hD:D.length≤100000)(hkl:keep.length≤100000)(w:World)(hs:Sat (rdvS x D k) w)(hk:V.slAt w p 1 inI keep)(hkd:0<keep.length→∀b o,p=some ⟨b,o,none⟩→b∉V.ids (rdvS x D k)):Calls Tryz.prog 17 [.pointer (some ⟨x.db,0,none⟩),.slice p keep.length cp].toArray w fun e w'=>∃o:V.OwnO,ownOk 1 (lostTo D keep D.length).length ((lostTo D keep D.length).flatMap inI) o∧e= .returned (ownV (lostTo D keep D.length).length o)∧Hp ⟨w,V.ids ((rdvS x D k))⟩ (ownG 3 ((lostTo D keep D.length).flatMap inI) o::rdvS x (cutD D keep) {k with e:=IntKind.i64.wrap (k.e+1)}) w':=by
 refine Cs_ (rdvS x D k) Tryz.func17 rfl Tryz.ntmps17 hs<|pA_ 17 ?_
 refine V.CW.perm (sg':=[ownG 3 ((lostTo D keep 0).flatMap inI) none,[(x.db,.cells (dxC x D k).toArray 104 (0,0))],[(x.cb,.cells (cxC x (mixTo (cutD D keep) D 0)).toArray 132 (0,0))]]) ?_ (by unfold mixTo lostTo;simp[V.ownG,V.ownS])
 refine loopA (γ:=Nat×V.OwnO) (fun j=>[(0,.pointer (some ⟨x.db,0,none⟩)),(1,.slice p keep.length cp),(5,ownV (lostTo D keep j.1).length j.2),(6,.int .i64 (j.1:Nat))]) (fun j=>[ownG 3 ((lostTo D keep j.1).flatMap inI) j.2,[(x.db,.cells (dxC x D k).toArray 104 (0,0))],[(x.cb,.cells (cxC x (mixTo (cutD D keep) D j.1)).toArray 132 (0,0))]]) (fun j=>j.1≤D.length∧ownOk 1 (lostTo D keep j.1).length ((lostTo D keep j.1).flatMap inI) j.2) (fun j=>D.length-j.1) ((0,none)) ⟨Nat.zero_le _,⟨rfl,rfl⟩⟩ fun j=>?_
 rintro⟨hj1,hj2⟩
 refine pA_ 7 ?_
 refine Lv (Ld (v:= .slice (some ⟨x.cb,0,none⟩) D.length x.cap))<|pA_ 4 ?_
 refine Cd_ rfl (fun h14=>?_) fun h14=>?_
 ·have hi:j.1<D.length:=by omega
  have hmul:=Nat.mul_le_mul_right 193 (show j.1+1≤D.length from hi)
  have hml:=cutD_len D keep
  have hmx:=mix_len hml j.1
  have hll:=lostTo_len D keep j.1
  obtain⟨c,hc⟩:∃c,D[j.1]? =some c:=⟨_,List.getElem?_eq_getElem hi⟩
  have hst:=lostTo_succ (keep:=keep) hc
  refine pA_ 5 ?_
  refine Qt<|pA_ 3 ?_
  refine Qv (Ld (v:= .slice (some ⟨x.cb,0,none⟩) D.length x.cap))<|Qv Mv<|Qv (Val.indexAddrN rfl rfl Tryz.underlying100 Tryz.sizeOf132 hi)<|QW.re 22 (.pointer (some ⟨x.cb,j.1*193,none⟩)) rfl (by simp)<|Qv (Fa 0 125)<|Qv (La (byC c.now.1) (r:=(cx_now (x:=x) (mix_at hml hc)).choose) (hl:=by simpa using(cx_now (x:=x) (mix_at hml hc)).choose_spec) (hs:=by rw[byC64];exact Tryz.sizeOf125))<|pA_ 3 ?_
  refine Qv (Ld (v:= .slice (some ⟨x.cb,0,none⟩) D.length x.cap))<|Qv Mv<|Qv (Val.indexAddrN rfl rfl Tryz.underlying100 Tryz.sizeOf132 hi)<|QW.re 30 (.pointer (some ⟨x.cb,j.1*193,none⟩)) rfl (by simp)<|Qv (Fa 64 125)<|Qv (La (byC c.kept.1) (r:=(cx_kept (x:=x) (mix_at hml hc)).choose) (hl:=(cx_kept (x:=x) (mix_at hml hc)).choose_spec) (hs:=by rw[byC64];exact Tryz.sizeOf125))<|Qv (Val.neBy (a:=c.now.1) (b:=c.kept.1) rfl rfl kr_ Tryz.underlying125 Tryz.underlying5 Tryz.sizeOf5 c.now.2 c.kept.2)<|QW.re 33 (.bool (looseB c)) rfl (by rw[looseB_eq])<|pA_ 8 ?_
  refine LW.split (d:=35) rfl (fun h35=>?_) (fun h35=>?_)
  ·replace h35:=bT h35
   have h35:looseB c=true:=h35
   refine Lv Mv<|Lv Mv<|Le (CV fun w hw=>rin_g keep p cp ((j.1:Nat):Int) hkl w (sl_up hw hk hkd)) fun _ _=>pA_ 3 ?_
   refine Cd_ rfl (fun h39=>?_) fun h39=>?_
   ·have h39:((j.1:Nat):Int)∈keep:=by simpa using h39
    rw[if_neg (by simp[h39]),List.append_nil] at hst
    have hc3:((mixTo (cutD D keep) D j.1).set j.1 (Ce.mk c.now c.now c.way c.sent))[j.1]? =some (Ce.mk c.now c.now c.way c.sent):=List.getElem?_set_self (by rw[hmx];omega)
    refine Dr ([[(x.db,.cells (dxC x D k).toArray 104 (0,0))]])<|pR_ [0,1,2] ?_
    refine Rv 3 rfl (Ld (v:= .slice (some ⟨x.cb,0,none⟩) D.length x.cap))<|pR_ [4,5,6,7] ?_
    refine Rv 8 rfl (Ld (v:= .slice (some ⟨x.cb,0,none⟩) D.length x.cap))<|Rv 9 rfl Mv<|Rv 10 rfl (Val.indexAddrN rfl rfl Tryz.underlying100 Tryz.sizeOf132 hi)<|RW.re 50 (.pointer (some ⟨x.cb,j.1*193,none⟩)) rfl (by simp)<|Rv 11 rfl (Fa 0 125)<|Re 12 rfl (Eff.ofVal (La (byC c.now.1) (r:=(cx_now (x:=x) (mix_at hml hc)).choose) (hl:=by simpa using(cx_now (x:=x) (mix_at hml hc)).choose_spec) (hs:=by rw[byC64];exact Tryz.sizeOf125))) fun _ _=>Rv 13 rfl (Val.indexAddrN rfl rfl Tryz.underlying100 Tryz.sizeOf132 hi)<|Rv 14 rfl (Fa 64 125)<|ReN 15 rfl (Eff.storeA (cs:=byC c.now.1) (l:=cxC x (mixTo (cutD D keep) D j.1)) (l':=cxC x ((mixTo (cutD D keep) D j.1).set j.1 (Ce.mk c.now c.now c.way c.sent))) rfl rfl up_ (by have h8:=cx_in (x:=x) (mix_at hml hc) 64 (byC c.now.1) (c':=(Ce.mk c.now c.now c.way c.sent)) (ce_kept c c.now) (by simp[byC64]);simpa using h8) (by rw[cx_len];simp[byC64,hmx];omega) (by rw[byC64];exact Tryz.sizeOf125) (V.byC_one _)) fun _ _=>pA_ 3 ?_
    refine Dr ([[(x.db,.cells (dxC x D k).toArray 104 (0,0))]])<|pR_ [0,1,2] ?_
    refine Rv 3 rfl (Ld (v:= .slice (some ⟨x.cb,0,none⟩) D.length x.cap))<|pR_ [4,5,6,7] ?_
    refine Rv 8 rfl (Ld (v:= .slice (some ⟨x.cb,0,none⟩) D.length x.cap))<|Rv 9 rfl Mv<|Rv 10 rfl (Val.indexAddrN rfl rfl Tryz.underlying100 Tryz.sizeOf132 hi)<|RW.re 70 (.pointer (some ⟨x.cb,j.1*193,none⟩)) rfl (by simp)<|Rv 11 rfl (Fa 64 125)<|Re 12 rfl (Eff.ofVal (La (byC (Ce.mk c.now c.now c.way c.sent).kept.1) (r:=(cx_kept (x:=x) hc3).choose) (hl:=(cx_kept (x:=x) hc3).choose_spec) (hs:=by rw[byC64];exact Tryz.sizeOf125))) ?_
    intro _ _
    refine Rv 13 rfl (Val.indexAddrN rfl rfl Tryz.underlying100 Tryz.sizeOf132 hi)<|Rv 14 rfl (Fa 0 125)<|ReN 15 rfl (Eff.storeA (cs:=byC (Ce.mk c.now c.now c.way c.sent).kept.1) (l:=cxC x ((mixTo (cutD D keep) D j.1).set j.1 (Ce.mk c.now c.now c.way c.sent))) (l':=cxC x ((mixTo (cutD D keep) D j.1).set j.1 (Ce.mk (Ce.mk c.now c.now c.way c.sent).kept (Ce.mk c.now c.now c.way c.sent).kept (Ce.mk c.now c.now c.way c.sent).way (Ce.mk c.now c.now c.way c.sent).sent))) rfl rfl up_ (by have h8:=cx_in (x:=x) hc3 0 (byC (Ce.mk c.now c.now c.way c.sent).kept.1) (c':=(Ce.mk (Ce.mk c.now c.now c.way c.sent).kept (Ce.mk c.now c.now c.way c.sent).kept (Ce.mk c.now c.now c.way c.sent).way (Ce.mk c.now c.now c.way c.sent).sent)) (ce_now (Ce.mk c.now c.now c.way c.sent) (Ce.mk c.now c.now c.way c.sent).kept) (by simp[byC64]);rw[List.set_set] at h8;simpa using h8) (by rw[cx_len];simp[byC64,hmx];omega) (by rw[byC64];exact Tryz.sizeOf125) (V.byC_one _)) fun _ _=>pA_ 6 ?_
    refine Lv (Ld (v:= .slice (some ⟨x.cb,0,none⟩) D.length x.cap))<|Lv Mv<|Lv (Val.indexAddrN rfl rfl Tryz.underlying100 Tryz.sizeOf132 hi)<|Lv (Fa 192 4) ?_
    refine LW.eN rfl (Eff.storeX (v:= .bool false) (l:=cxC x ((mixTo (cutD D keep) D j.1).set j.1 (Ce.mk (Ce.mk c.now c.now c.way c.sent).kept (Ce.mk c.now c.now c.way c.sent).kept (Ce.mk c.now c.now c.way c.sent).way (Ce.mk c.now c.now c.way c.sent).sent))) (l':=cxC x ((mixTo (cutD D keep) D j.1).set j.1 (Ce.mk (Ce.mk c.now c.now c.way c.sent).kept (Ce.mk c.now c.now c.way c.sent).kept (Ce.mk c.now c.now c.way c.sent).way false))) rfl rfl rfl up_ (by have h8:=cx_in (x:=x) (c:=(Ce.mk (Ce.mk c.now c.now c.way c.sent).kept (Ce.mk c.now c.now c.way c.sent).kept (Ce.mk c.now c.now c.way c.sent).way (Ce.mk c.now c.now c.way c.sent).sent)) (c':=(Ce.mk (Ce.mk c.now c.now c.way c.sent).kept (Ce.mk c.now c.now c.way c.sent).kept (Ce.mk c.now c.now c.way c.sent).way false)) (List.getElem?_set_self (by rw[hmx];omega)) 192 [.bool false] (ce_sent (Ce.mk (Ce.mk c.now c.now c.way c.sent).kept (Ce.mk c.now c.now c.way c.sent).kept (Ce.mk c.now c.now c.way c.sent).way (Ce.mk c.now c.now c.way c.sent).sent) false) (by simp);rw[List.set_set] at h8;simpa[V.splice] using h8) (by rw[cx_len];simp[hmx];omega) Tryz.sizeOf4) ?_
    intro _ _
    refine pA_ 8 ?_
    have e8:(Ce.mk (Ce.mk c.now c.now c.way c.sent).kept (Ce.mk c.now c.now c.way c.sent).kept (Ce.mk c.now c.now c.way c.sent).way false)=cutC keep j.1 c:=by
     unfold cutC;simp[h39]
    rw[e8,mix_step hml hc (cutD_at hc)]
    rw[← hst]
    refine PQ.round ((j.1+1,j.2)) ⟨by simp only;omega,by simp only;rw[hst];exact hj2⟩ (by simp only;omega) (by exact⟨rfl,rfl,by rw[hst];rfl,rfl,trivial⟩) pk_
   ·have h39:¬((j.1:Nat):Int)∈keep:=by simpa using h39
    rw[if_pos (by simp[h35,h39])] at hst
    refine pA_ 5 ?_
    refine CW.cond rfl (fun h55=>?_) (fun h55=>?_)
    ·replace h55:=bT h55
     refine Rg<|Lv Mv<|Lv Mv<|Le (Eff.buildSlice (rfl) [_] Tryz.underlying24 Tryz.sizeOf3 (by exact Tryz.zeroValue3) rfl rfl rfl rfl (by rfl)) fun b58 _=>Le (Eff.appendAny (inI ((j.1:Nat):Int)) (sz:=1) (bytes:=8) (z:= .int .i64 0) (xs:=(lostTo D keep j.1).flatMap inI) (m0:=(lostTo D keep j.1).length) (o:=j.2) (m:=1) (pk:=[ownG 3 ((lostTo D keep j.1).flatMap inI) (j.2)]) rfl rfl Tryz.underlying24 kr_ rfl om_ pk_ (by simp) hj2 (by rfl) (fun hm0=>⟨b58,0,rfl,fun w hw=>V.range_of_block (o:=0) (cs:=inI ((j.1:Nat):Int)) (r:=[]) (hw.own _ (show InS (b58,.cells (inI ((j.1:Nat):Int)).toArray 3 (0,0)) _ from in_).mem) rfl⟩) (by rfl) om_ om_) fun o2 ho2=>Lv Av<|Nl<|Ps<|Sq<|Dr ([[(x.db,.cells (dxC x D k).toArray 104 (0,0))]])<|Rv 0 rfl Mv<|Rv 1 rfl Nz<|Rv 2 rfl (Fa 0 100)<|Rv 3 rfl (Ld (v:= .slice (some ⟨x.cb,0,none⟩) D.length x.cap))<|Rv 4 rfl Mv<|Rv 5 rfl Mv<|Rv 6 rfl Nz<|Rv 7 rfl (Fa 0 100)<|Rv 8 rfl (Ld (v:= .slice (some ⟨x.cb,0,none⟩) D.length x.cap))<|Rv 9 rfl Mv<|Rv 10 rfl (Val.indexAddrN rfl rfl Tryz.underlying100 Tryz.sizeOf132 hi)<|RW.re 70 (.pointer (some ⟨x.cb,j.1*193,none⟩)) rfl (by simp)<|Rv 11 rfl (Fa 64 125)<|Re 12 rfl (Eff.ofVal (La (byC c.kept.1) (r:=(cx_kept (x:=x) (mix_at hml hc)).choose) (hl:=(cx_kept (x:=x) (mix_at hml hc)).choose_spec) (hs:=by rw[byC64];exact Tryz.sizeOf125))) fun _ _=>Rv 13 rfl (Val.indexAddrN rfl rfl Tryz.underlying100 Tryz.sizeOf132 hi)<|Rv 14 rfl (Fa 0 125)<|ReN 15 rfl (Eff.storeA (cs:=byC c.kept.1) (l:=cxC x (mixTo (cutD D keep) D j.1)) (l':=cxC x ((mixTo (cutD D keep) D j.1).set j.1 (Ce.mk c.kept c.kept c.way c.sent))) rfl rfl up_ (by have h8:=cx_in (x:=x) (mix_at hml hc) 0 (byC c.kept.1) (c':=(Ce.mk c.kept c.kept c.way c.sent)) (ce_now c c.kept) (by simp[byC64]);simpa using h8) (by rw[cx_len];simp[byC64,hmx];omega) (by rw[byC64];exact Tryz.sizeOf125) (V.byC_one _)) ?_
     intro _ _
     refine pA_ 6 ?_
     refine Lv (Ld (v:= .slice (some ⟨x.cb,0,none⟩) D.length x.cap))<|Lv Mv<|Lv (Val.indexAddrN rfl rfl Tryz.underlying100 Tryz.sizeOf132 hi)<|Lv (Fa 192 4) ?_
     refine LW.eN rfl (Eff.storeX (v:= .bool false) (l:=cxC x ((mixTo (cutD D keep) D j.1).set j.1 (Ce.mk c.kept c.kept c.way c.sent))) (l':=cxC x ((mixTo (cutD D keep) D j.1).set j.1 (Ce.mk c.kept c.kept c.way false))) rfl rfl rfl up_ (by have h8:=cx_in (x:=x) (c:=(Ce.mk c.kept c.kept c.way c.sent)) (c':=(Ce.mk c.kept c.kept c.way false)) (List.getElem?_set_self (by rw[hmx];omega)) 192 [.bool false] (ce_sent (Ce.mk c.kept c.kept c.way c.sent) false) (by simp);rw[List.set_set] at h8;simpa[V.splice] using h8) (by rw[cx_len];simp[hmx];omega) Tryz.sizeOf4) ?_
     intro _ _
     refine pA_ 8 ?_
     have e8:(Ce.mk c.kept c.kept c.way false)=cutC keep j.1 c:=by
      unfold cutC;simp[h39]
     rw[e8,mix_step hml hc (cutD_at hc)]
     rw[← show(lostTo D keep (j.1+1)).flatMap inI=(lostTo D keep j.1).flatMap inI++inI ((j.1:Nat):Int) by rw[hst,List.flatMap_append];rfl]
     refine PQ.round ((j.1+1,o2)) ⟨by simp only;omega,by simp only;rw[hst,List.flatMap_append,List.length_append];exact ho2⟩ (by simp only;omega) (by exact⟨rfl,rfl,by rw[hst,List.length_append];rfl,rfl,trivial⟩) pk_
    ·rw[h35] at h55;cases h55
  ·replace h35:=bF h35
   have h35:looseB c=false:=h35
   rw[if_neg (by simp[h35]),List.append_nil] at hst
   refine pA_ 12 ?_
   refine CW.cond rfl (fun h55=>?_) (fun h55=>?_)
   ·rw[h35] at h55;cases h55
   ·replace h55:=bF h55
    refine pA_ 3 ?_
    refine Dr ([[(x.db,.cells (dxC x D k).toArray 104 (0,0))]])<|pR_ [0,1,2] ?_
    refine Rv 3 rfl (Ld (v:= .slice (some ⟨x.cb,0,none⟩) D.length x.cap))<|pR_ [4,5,6,7] ?_
    refine Rv 8 rfl (Ld (v:= .slice (some ⟨x.cb,0,none⟩) D.length x.cap))<|Rv 9 rfl Mv<|Rv 10 rfl (Val.indexAddrN rfl rfl Tryz.underlying100 Tryz.sizeOf132 hi)<|RW.re 70 (.pointer (some ⟨x.cb,j.1*193,none⟩)) rfl (by simp)<|Rv 11 rfl (Fa 64 125)<|Re 12 rfl (Eff.ofVal (La (byC c.kept.1) (r:=(cx_kept (x:=x) (mix_at hml hc)).choose) (hl:=(cx_kept (x:=x) (mix_at hml hc)).choose_spec) (hs:=by rw[byC64];exact Tryz.sizeOf125))) fun _ _=>Rv 13 rfl (Val.indexAddrN rfl rfl Tryz.underlying100 Tryz.sizeOf132 hi)<|Rv 14 rfl (Fa 0 125)<|ReN 15 rfl (Eff.storeA (cs:=byC c.kept.1) (l:=cxC x (mixTo (cutD D keep) D j.1)) (l':=cxC x ((mixTo (cutD D keep) D j.1).set j.1 (Ce.mk c.kept c.kept c.way c.sent))) rfl rfl up_ (by have h8:=cx_in (x:=x) (mix_at hml hc) 0 (byC c.kept.1) (c':=(Ce.mk c.kept c.kept c.way c.sent)) (ce_now c c.kept) (by simp[byC64]);simpa using h8) (by rw[cx_len];simp[byC64,hmx];omega) (by rw[byC64];exact Tryz.sizeOf125) (V.byC_one _)) fun _ _=>pA_ 6 ?_
    refine Lv (Ld (v:= .slice (some ⟨x.cb,0,none⟩) D.length x.cap))<|Lv Mv<|Lv (Val.indexAddrN rfl rfl Tryz.underlying100 Tryz.sizeOf132 hi)<|Lv (Fa 192 4) ?_
    refine LW.eN rfl (Eff.storeX (v:= .bool false) (l:=cxC x ((mixTo (cutD D keep) D j.1).set j.1 (Ce.mk c.kept c.kept c.way c.sent))) (l':=cxC x ((mixTo (cutD D keep) D j.1).set j.1 (Ce.mk c.kept c.kept c.way false))) rfl rfl rfl up_ (by have h8:=cx_in (x:=x) (c:=(Ce.mk c.kept c.kept c.way c.sent)) (c':=(Ce.mk c.kept c.kept c.way false)) (List.getElem?_set_self (by rw[hmx];omega)) 192 [.bool false] (ce_sent (Ce.mk c.kept c.kept c.way c.sent) false) (by simp);rw[List.set_set] at h8;simpa[V.splice] using h8) (by rw[cx_len];simp[hmx];omega) Tryz.sizeOf4) ?_
    intro _ _
    refine pA_ 8 ?_
    have e8:(Ce.mk c.kept c.kept c.way false)=cutC keep j.1 c:=by
     have e7:c.now=c.kept:=by simpa[looseB] using h35
     unfold cutC;simp[e7]
    rw[e8,mix_step hml hc (cutD_at hc)]
    rw[← hst]
    refine PQ.round ((j.1+1,j.2)) ⟨by simp only;omega,by simp only;rw[hst];exact hj2⟩ (by simp only;omega) (by exact⟨rfl,rfl,by rw[hst];rfl,rfl,trivial⟩) pk_
 ·have hj9:j.1=D.length:=by omega
  have hend:(mixTo (cutD D keep) D j.1)=cutD D keep:=by unfold mixTo;rw[hj9,List.take_of_length_le (by rw[cutD_len];omega),List.drop_eq_nil_iff.2 om_,List.append_nil]
  rw[hend]
  refine pA_ 11 ?_
  refine Lv (Ld (v:= .int .i64 k.e))<|Lv (Val.arw rfl rfl rfl)<|pA_ 3 ?_
  refine LeN (Eff.storeX (v:= .int .i64 (IntKind.i64.wrap (k.e+1))) (l:=dxC x D k) (l':=dxC x D {k with e:=IntKind.i64.wrap (k.e+1)}) rfl rfl rfl up_ rfl (by show _<6;omega) Tryz.sizeOf3) fun _ _=>pA_ 10 ?_
  obtain⟨j1,jo⟩:=j
  simp only at hj9 hj1 hj2
  subst hj9
  intro w' hw
  exact⟨jo,hj2,rfl,by unfold rdvS dxC;rw[cutD_len];exact hw.pick pk_⟩
theorem satF {w:World}{ss:V.Sg}(h:Sat [ss.flatten] w):Sat ss w:=satP h (by simp)
theorem hp_flat {w w':World}{ss so:V.Sg}(h:Hp ⟨w,V.ids ss⟩ so w'):Hp ⟨w,V.ids [ss.flatten]⟩ [so.flatten] w':=hp_ids (by simp) (h.perm (by simp))
theorem hp_sub {w w':World}{s1 s2 so:V.Sg}(hp:∀b,b∈V.ids s2→b∈V.ids s1)(h:Hp ⟨w,V.ids s2⟩ so w'):Hp ⟨w,V.ids s1⟩ so w':=
 ⟨h.os,h.tape,h.output,h.size,fun k hk hf=>h.old k hk (fun h1=>hf (hp k h1)),h.own,fun p hp1=>(h.lo p hp1).imp id (hp p.1),h.nd⟩
theorem ids_part {s1 s2 r:V.Sg}(h:s1.flatten.Perm (s2.flatten++r.flatten))(b:Nat)(hb:b∈V.ids s2):b∈V.ids s1:=
 (h.map Prod.fst).mem_iff.2 (by rw[List.map_append];exact List.mem_append_left _ hb)
theorem sat_part {w:World}{s1 s2 r:V.Sg}(h:s1.flatten.Perm (s2.flatten++r.flatten))(hs:Sat s1 w):Sat s2 w:=
 ⟨fun p h8=>hs.own p (h.mem_iff.2 (List.mem_append_left _ h8)),(List.nodup_append.1 (by rw[← List.map_append];exact(h.map Prod.fst).nodup_iff.1 hs.nd)).1⟩
@[irreducible] def b1S (rb:Nat)(x:DvR)(v:Dev)(r:Rvl)(ar:Option (ArR×ArS)):V.Seg:=(rvG rb x v r ar).flatten
@[irreducible] def b2S (x2:DvR)(v:Dev)(th:Nat)(c:RCo)(lo:V.OwnO)(q:Option (RAw×ROv)):V.Seg:=(ownG 97 (c.l.flatMap fdC) lo::rwA x2 v th c q:V.Sg).flatten
abbrev b2B (wb:Nat)(x2:DvR)(th:Nat)(c:RCo)(lo:V.OwnO)(q:Option (RAw×ROv)):V.Seg:=[(wb,.cells (rv3 x2.db (th:Nat) c lo (q.map fun y=>⟨y.1.ab,0,none⟩)).toArray 43 (0,0))]
theorem b1_eq (rb:Nat)(x:DvR)(v:Dev)(r:Rvl)(ar:Option (ArR×ArS)):b1S rb x v r ar=(rvG rb x v r ar).flatten:=by unfold b1S;rfl
theorem b2_eq (wb:Nat)(x2:DvR)(v:Dev)(th:Nat)(c:RCo)(lo:V.OwnO)(q:Option (RAw×ROv)):([b2B wb x2 th c lo q,b2S x2 v th c lo q]:V.Sg).flatten=(rwG wb x2 v th c lo q).flatten:=by
 unfold b2S
 simp only[List.flatten_cons,List.flatten_nil,List.append_nil]
theorem stepP_g (rb:Nat)(x:DvR)(v:Dev)(r:Rvl)(ar:Option (ArR×ArS))(th:Nat)(h1:1≤th)(h4:th≤4)(hI:Inv v.D.length v (corOf r))(hX:RvX th v.D.length r ar)(w:World)(hs:Sat [b1S rb x v r ar] w):Calls Tryz.prog 12 [.pointer (some ⟨rb,0,none⟩)].toArray w fun e w'=>∃q:Rvl×Option (ArR×ArS),(corOf q.1=(stp v (corOf r)).2.1∧RvX th v.D.length q.1 q.2)∧e= .returned (.int .i64 (stp v (corOf r)).2.2)∧Hp ⟨w,V.ids [b1S rb x v r ar]⟩ [b1S rb x (stp v (corOf r)).1 q.1 q.2] w':=by
 rw[b1_eq] at hs⊢
 refine(step_g rb x v r ar th h1 h4 hI hX w (satF hs)).mono fun e w' ⟨q,e1,e2,e3⟩=>⟨q,e1,e2,?_⟩
 rw[b1_eq]
 exact hp_flat e3
theorem stepW_g (wb:Nat)(x2:DvR)(v:Dev)(th:Nat)(c:RCo)(lo:V.OwnO)(q:Option (RAw×ROv))(cc:Cor)(h1:1≤th)(h4:th≤4)(hI:Inv v.D.length v cc)(hC:∃D0,Cln D0 v cc∧Run D0 v cc)(hR:Rel cc c)(hm:10≤v.D.length∧v.D.length≤258)(hX:RwX v.D.length c lo q):Mo Tryz.prog 13 [.pointer (some ⟨wb,0,none⟩)] [b2B wb x2 th c lo q,b2S x2 v th c lo q] (fun z:V.OwnO×Option (RAw×ROv)=>RwX v.D.length (rstp v c).2.1 z.1 z.2) (fun _=> .int .i64 (stp v cc).2.2) (fun z=>[b2B wb x2 th (rstp v c).2.1 z.1 z.2,b2S x2 (stp v cc).1 th (rstp v c).2.1 z.1 z.2]):=by
 intro w hs
 obtain⟨D0,hC1,hC2⟩:=hC
 obtain⟨k1,k2,_⟩:=hR.step hI
 refine(rwstep_g wb x2 v th c lo q cc D0 h1 h4 hI hC1 hR hC2.p7 hm hX w (satP hs (by rw[b2_eq]))).mono fun e w' ⟨z,e1,e2,e3⟩=>⟨z,e1,?_,?_⟩
 ·rw[← k2];exact e2
 ·rw[← k1]
  exact hp_ids (by rw[b2_eq]) (e3.perm (by rw[b2_eq]))
structure Bst where
 v:Dev
 r:Rvl
 ar:Option (ArR×ArS)
 c:RCo
 lo:V.OwnO
 q:Option (RAw×ROv)
structure Bi (th n:Nat)(b:Bst):Prop where
 len:b.v.D.length=n
 inv:Inv n b.v (corOf b.r)
 cl:∃D0,D0.length=n∧Cln D0 b.v (corOf b.r)∧Run D0 b.v (corOf b.r)
 rel:Rel (corOf b.r) b.c
 x:RvX th n b.r b.ar
 w:RwX n b.c b.lo b.q
def bst0 (v:Dev)(th:Nat):Bst:=⟨v,rv0 (th:Nat),none,rco0,none,none⟩
theorem Bi.new {v:Dev}{th n:Nat}(hl:v.D.length=n)(hn:0<n∧n≤1000):Bi th n (bst0 v th):=by
 have h8:=runN_inv (v:=v) om_ 0
 rw[hl] at h8
 exact⟨hl,h8.1,⟨v.D,hl,h8.2,run0 v⟩,rel0,⟨rfl,⟨rfl,rfl⟩,⟨rfl,rfl⟩,fun _=>⟨rfl,rfl⟩,by rfl,fun y h=>by cases h⟩,⟨⟨rfl,rfl⟩,by rfl,fun y h=>by cases h⟩⟩
theorem Bi.step {th n:Nat}{b:Bst}(hB:Bi th n b){q:Rvl×Option (ArR×ArS)}{z:V.OwnO×Option (RAw×ROv)}(hq:corOf q.1=(stp b.v (corOf b.r)).2.1∧RvX th n q.1 q.2)(hz:RwX n (rstp b.v b.c).2.1 z.1 z.2):Bi th n ⟨(stp b.v (corOf b.r)).1,q.1,q.2,(rstp b.v b.c).2.1,z.1,z.2⟩:=by
 obtain⟨D0,hD,hC,hR⟩:=hB.cl
 have hi:=hB.inv.step
 obtain⟨_,_,k3⟩:=hB.rel.step hB.inv
 refine⟨hi.len,by rw[hq.1];exact hi,⟨D0,hD,by rw[hq.1];exact hC.step hB.inv hD,by rw[hq.1];exact hR.step hC hB.inv hD⟩,by rw[hq.1];exact k3,hq.2,hz⟩
end
section
attribute [local irreducible] V.CW V.LW V.QW V.RW V.PQ V.Val V.Eff V.Qcall
open V (str byC ownV ownG ownS ownOk)
theorem fnd_ok {D:List Ce}{n:Nat}{f:Fnd}(h:f∈fds D (slabsF n*8)):(-1000000≤(lkOf f).line∧(lkOf f).line≤1000000)∧(-1000000≤(lkOf f).cls∧(lkOf f).cls≤1000000):=by
 obtain⟨i,hi,hs⟩:=fds_mem.1 h
 have h1:=scN_line hs
 have h2:=scN_span hs
 have h3:=slabs_lt n
 have h4:0≤f.b.cls∧f.b.cls≤3:=by
  unfold spanF at h2
  split at h2
  ·assumption
  ·exact absurd rfl h2
 show(-1000000≤f.line∧f.line≤1000000)∧(-1000000≤f.b.cls∧f.b.cls≤1000000)
 omega
theorem alk_of {th n:Nat}{b:Bst}(hB:Bi th n b)(hn:10≤n∧n≤258)(h6:b.r.ph=6){y:ArR×ArS}{z:RAw×ROv}(hy:b.ar=some y)(hz:b.q=some z):Alk th b.r.e y.2 z.2∧ArOk th n y.1 y.2∧RaOk z.1 z.2:=by
 have hy1:=(hB.x.got y hy).1
 obtain⟨g1,g2,g3⟩:=hB.w.got z hz
 obtain⟨D0,hD,hC,hR⟩:=hB.cl
 have hce:=hB.rel.e
 have hcl:=hB.rel.l
 have hk:b.r.kp=decK b.r.e b.r.fd:=(hB.inv.kp (by show 3≤b.r.ph;omega) (by show b.r.ph≤6;omega)).1
 have hkz:ovE n b.r.kp=0:=(hB.inv.kp (by show 3≤b.r.ph;omega) (by show b.r.ph≤6;omega)).2
 have hfd:b.r.fd=fds D0 (slabsF n*8):=by have h8:=hC.f2 (by show 2≤b.r.ph;omega) (by show b.r.ph≤6;omega);rw[hD] at h8;exact h8
 have hfl:b.r.fd.length≤256:=hB.inv.fl
 have hkl:b.r.kp.length≤256:=by rw[hk];exact Nat.le_trans (List.length_filter_le _ _) hfl
 have hgd:∀f∈b.r.kp,(-1000000≤(lkOf f).line∧(lkOf f).line≤1000000)∧(-1000000≤(lkOf f).cls∧(lkOf f).cls≤1000000):=by
  intro f hf
  rw[hk] at hf
  have h8:=(List.mem_filter.1 hf).1
  rw[hfd] at h8
  exact fnd_ok h8
 obtain⟨a1,a2,a3,a4,a5,a6,a7⟩:=ova_sh hy1
 obtain⟨r,e1,e2,e3,e4,e5,e6,e7,e8,e9,e10,e11,e12⟩:=ova_ref hn.1 hy1
 have hr:r=z.2:=by
  have h8:rovAll (slabsF n).toNat rov0 b.r.kp=some z.2:=by rw[hk];rw[hce,hcl] at g1;exact g1
  rw[e1] at h8
  exact Option.some.inj h8
 subst hr
 obtain⟨c8,hc8,Lz8,rg8,ro8,hs8,_,_,_,_⟩:=hy1.get y.1 y.2 rfl
 obtain⟨c9,r9,hc9,hr9,hrel⟩:=(over_ref hn.1 b.r.kp).2 hkz
 obtain rfl:c9=c8:=by rw[hc8] at hc9;exact(Option.some.inj hc9).symm
 obtain rfl:r9=z.2:=by rw[e1] at hr9;exact(Option.some.inj hr9).symm
 have hTz:y.2.Tz=c9.Tz:=by rw[hs8];rfl
 have ho:odL0 y.2.Lz=z.2.tl:=by
  unfold odL0
  rw[List.getElem?_map] at e8
  rw[e8];rfl
 have ho9:z.2.tl.length≤900:=by have h8:=hrel.tp.length_eq;rw[← hTz] at h8;omega
 have b1:∀l∈tLinks y.2.Tz,(-1000000≤l.line∧l.line≤1000000)∧(-1000000≤l.cls∧l.cls≤1000000):=fun l hl=>by
  obtain⟨f,hf,rfl⟩:=a6 l hl
  exact hgd f hf
 have hsl:=slabs_lt n
 refine⟨⟨e3,e4,e5,e6,e7,ho,ho9,e9,e10,by rw[e11],by rw[e12];exact⟨rfl,rfl,rfl⟩,a2,⟨by omega,g3.t,g3.q,by rw[a1.sl];omega,by have:=g3.p;omega⟩,b1,?_,?_⟩,a1,g2⟩
 ·intro l hl
  exact b1 l (by rw[hTz];exact hrel.tp.subset hl)
 ·intro l hl
  rw[← e6] at hl
  obtain⟨f,hf,rfl⟩:=a7 l hl
  exact hgd f hf
theorem alikeB_g (rb wb:Nat)(x x2:DvR)(th n:Nat)(b:Bst)(hB:Bi th n b)(hn:10≤n∧n≤258)(h4:th≤4):Rx Tryz.prog 14 [.pointer (some ⟨rb,0,none⟩),.pointer (some ⟨wb,0,none⟩)] [b1S rb x b.v b.r b.ar,b2B wb x2 th b.c b.lo b.q,b2S x2 b.v th b.c b.lo b.q] (.bool true):=by
 intro w hs
 have hK:= @alk_of th n b hB hn
 obtain⟨v,r,ar,c,lo,q⟩:=b
 obtain⟨ph,e,l,nx,dn,dc⟩:=c
 have hR:=hB.rel
 have hi:=hB.inv
 obtain rfl:ph=r.ph:=hR.ph
 obtain rfl:e=r.e:=hR.e
 obtain rfl:l=r.fd:=hR.l
 have hlen:v.D.length=n:=hB.len
 have hfl:r.fd.length≤256:=hi.fl
 have hdc:dc=decide (3≤r.ph∧r.ph≤6):=hR.dc
 have hkp:r.kp=if dc=true then decK r.e r.fd else[]:=hR.kp
 have hkl:r.kp.length≤1000:=by
  rw[hkp]
  split
  ·exact Nat.le_trans (List.length_filter_le _ _) om_
  ·exact Nat.zero_le _
 obtain⟨D0,hD,hC,hRun⟩:=hB.cl
 by_cases h6:r.ph=6
 ·obtain⟨y,rfl⟩:∃y,ar=some y:=by
   have h8:=hB.x.has
   simp only at h8
   rw[decide_eq_true h6] at h8
   exact Option.isSome_iff_exists.1 h8
  obtain⟨z,rfl⟩:∃z,q=some z:=by
   have h8:=hB.w.has
   simp only at h8
   rw[decide_eq_true h6] at h8
   exact Option.isSome_iff_exists.1 h8
  obtain rfl:dc=true:=by rw[hdc];exact decide_eq_true ⟨by omega,by omega⟩
  obtain⟨k1,k2,k4⟩:=hK h6 rfl rfl
  obtain⟨hri,hkd⟩:=fd_rise hi hC (show r.ph≤6 by omega) r.e
  have kk:ArOk th v.D.length y.1 y.2:=by rw[hlen];exact k2
  refine alikeS_g rb wb x x2 v r th nx dn lo hB.w.lo hB.x.fd hB.x.kp om_ hkl hri hkd y z h6 (hB.x.got y rfl).2 (by rw[hkp];rfl) k1 kk k4 om_ (Nat.le_trans (List.length_filterMap_le _ _) (by have:=k1.n.2.1;omega)) (Nat.le_trans (List.length_filterMap_le _ _) (by have:=k1.n.2.2.1;omega)) w (satP hs ?_)
  rw[List.flatten_cons,b1_eq,b2_eq]
  show _root_.List.Perm ((rvS rb x.db r++(arS y.1 y.2 x.db++vS x v):V.Sg).flatten++(_::_::raS z.1 x2.db th (slabsF v.D.length) r.e z.2 (rvS3 x2 v):V.Sg).flatten) _
  simp only[List.flatten_append,List.flatten_cons,List.append_assoc]
  exact .refl _
 ·obtain rfl:ar=none:=by
   have h8:=hB.x.has
   simp only at h8
   rw[decide_eq_false h6] at h8
   cases ar with
   |none=>rfl
   |some y=>cases h8
  obtain rfl:q=none:=by
   have h8:=hB.w.has
   simp only at h8
   rw[decide_eq_false h6] at h8
   cases q with
   |none=>rfl
   |some y=>cases h8
  have hsx:([b1S rb x v r none,b2B wb x2 th ⟨r.ph,r.e,r.fd,nx,dn,dc⟩ lo none,b2S x2 v th ⟨r.ph,r.e,r.fd,nx,dn,dc⟩ lo none]:V.Sg).flatten.Perm (rvS rb x.db r++(vS x v++([(wb,.cells (rv3 x2.db (th:Nat) ⟨r.ph,r.e,r.fd,nx,dn,dc⟩ lo none).toArray 43 (0,0))]::ownG 97 (r.fd.flatMap fdC) lo::rvS3 x2 v)):V.Sg).flatten:=by
   rw[List.flatten_cons,b1_eq,b2_eq]
   show _root_.List.Perm ((rvS rb x.db r++vS x v:V.Sg).flatten++(_::_::rvS3 x2 v:V.Sg).flatten) _
   simp only[List.flatten_append,List.flatten_cons,List.append_assoc]
   exact .refl _
  cases dc with
  |true=>
   have h36:=of_decide_eq_true hdc.symm
   obtain⟨hri,hkd⟩:=fd_rise hi hC (show r.ph≤6 by omega) r.e
   exact alikeT_g rb wb x x2 v r th nx dn lo hB.w.lo hB.x.fd hB.x.kp om_ hkl hri hkd h6 (by rw[hkp];rfl) w (satP hs hsx)
  |false=>exact alikeF_g rb wb x x2 v r th nx dn lo hB.w.lo hB.x.fd hB.x.kp om_ hkl h6 (by rw[hkp];rfl) w (satP hs hsx)
theorem b1_part (rb:Nat)(x:DvR)(v:Dev)(r:Rvl)(ar:Option (ArR×ArS)):∃R:V.Sg,([b1S rb x v r ar]:V.Sg).flatten.Perm ((vS x v).flatten++R.flatten):=by
 rw[List.flatten_cons,b1_eq,List.flatten_nil,List.append_nil]
 cases ar with
 |none=>exact⟨rvS rb x.db r,by show _root_.List.Perm (rvS rb x.db r++vS x v:V.Sg).flatten _;rw[List.flatten_append];exact List.perm_append_comm⟩
 |some y=>exact⟨rvS rb x.db r++arS y.1 y.2 x.db,by show _root_.List.Perm (rvS rb x.db r++(arS y.1 y.2 x.db++vS x v):V.Sg).flatten _;rw[← List.append_assoc,List.flatten_append];exact List.perm_append_comm⟩
theorem b2_part (wb:Nat)(x2:DvR)(v:Dev)(th:Nat)(c:RCo)(lo:V.OwnO)(q:Option (RAw×ROv)):∃R:V.Sg,([b2B wb x2 th c lo q,b2S x2 v th c lo q]:V.Sg).flatten.Perm ((rvS3 x2 v).flatten++R.flatten):=by
 rw[b2_eq]
 cases q with
 |none=>exact⟨[_,_],by show _root_.List.Perm ([_,_]++rvS3 x2 v:V.Sg).flatten _;rw[List.flatten_append];exact List.perm_append_comm⟩
 |some y=>exact⟨_::_::raS y.1 x2.db th (slabsF v.D.length) c.e y.2 [],by show _root_.List.Perm ((_::_::raS y.1 x2.db th (slabsF v.D.length) c.e y.2 [])++rvS3 x2 v:V.Sg).flatten _;rw[List.flatten_append];exact List.perm_append_comm⟩
theorem linesB_g (rb wb:Nat)(x x2:DvR)(th:Nat)(b:Bst)(hn:b.v.D.length≤1000):Rx Tryz.prog 15 [.pointer (some ⟨x.db,0,none⟩),.pointer (some ⟨x2.db,0,none⟩)] [b1S rb x b.v b.r b.ar,b2B wb x2 th b.c b.lo b.q,b2S x2 b.v th b.c b.lo b.q] (.bool true):=by
 intro w hs
 obtain⟨R1,h1⟩:=b1_part rb x b.v b.r b.ar
 obtain⟨R2,h2⟩:=b2_part wb x2 b.v th b.c b.lo b.q
 refine rlines_g x x2 b.v.D b.v.k b.v.k hn w (sat_part (r:=R1++R2) ?_ hs)
 rw[List.flatten_append,List.flatten_append,List.append_assoc]
 have h3:=h1.append h2
 rw[List.flatten_cons,List.flatten_nil,List.append_nil] at h3
 refine h3.trans ?_
 rw[List.append_assoc]
 refine List.Perm.append_left _ ?_
 rw[← List.append_assoc,← List.append_assoc]
 exact List.Perm.append_right _ List.perm_append_comm
theorem cut1_g (rb:Nat)(x:DvR)(v:Dev)(r:Rvl)(ar:Option (ArR×ArS))(ks:List Int)(p:Option Addr)(cp:Nat)(hD:v.D.length≤100000)(hkl:ks.length≤100000)(w:World)(hs:Sat [b1S rb x v r ar] w)(hk:V.slAt w p 1 inI ks)(hkd:0<ks.length→∀b o,p=some ⟨b,o,none⟩→b∉V.ids [b1S rb x v r ar]):Calls Tryz.prog 16 [.pointer (some ⟨x.db,0,none⟩),.slice p ks.length cp].toArray w fun e w'=>∃o:V.OwnO,True∧e= .returned (.tuple #[ownV (lostTo v.D ks v.D.length).length o,.int .i64 0])∧Hp ⟨w,V.ids [b1S rb x v r ar]⟩ (vS x (v.cut ks)) w':=by
 obtain⟨R1,h1⟩:=b1_part rb x v r ar
 refine(cut_v x v ks p cp hD hkl w (sat_part h1 hs) hk (fun h0 b o hb hm=>hkd h0 b o hb (ids_part h1 b hm))).mono fun e w' ⟨o,_,e1,e2⟩=>⟨o,trivial,e1,hp_sub (ids_part h1) (e2.pick pk_)⟩
theorem cut2_g (wb:Nat)(x2:DvR)(v:Dev)(th:Nat)(c:RCo)(lo:V.OwnO)(q:Option (RAw×ROv))(ks:List Int)(p:Option Addr)(cp:Nat)(hD:v.D.length≤100000)(hkl:ks.length≤100000)(w:World)(hs:Sat [b2B wb x2 th c lo q,b2S x2 v th c lo q] w)(hk:V.slAt w p 1 inI ks)(hkd:0<ks.length→∀b o,p=some ⟨b,o,none⟩→b∉V.ids [b2B wb x2 th c lo q,b2S x2 v th c lo q]):Calls Tryz.prog 17 [.pointer (some ⟨x2.db,0,none⟩),.slice p ks.length cp].toArray w fun e w'=>∃o:V.OwnO,True∧e= .returned (ownV (lostTo v.D ks v.D.length).length o)∧Hp ⟨w,V.ids [b2B wb x2 th c lo q,b2S x2 v th c lo q]⟩ (rvS3 x2 (v.cut ks)) w':=by
 obtain⟨R1,h1⟩:=b2_part wb x2 v th c lo q
 refine(rcut_gc x2 v.D v.k ks p cp hD hkl w (sat_part h1 hs) hk (fun h0 b o hb hm=>hkd h0 b o hb (ids_part h1 b hm))).mono fun e w' ⟨o,_,e1,e2⟩=>⟨o,trivial,e1,hp_sub (ids_part h1) (e2.pick (ss:=rvS3 x2 (v.cut ks)) pk_)⟩
end
end G
end Go.Proofs.YteejleakfbnpcaaGreat
