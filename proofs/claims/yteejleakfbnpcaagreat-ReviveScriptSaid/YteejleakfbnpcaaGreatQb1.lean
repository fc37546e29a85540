import Derived.Test.YteejleakfbnpcaaGreatQa6
/- What the law leans on, part 6b. -/
namespace Go.Proofs.YteejleakfbnpcaaGreat
open Go Go.RowKit V
set_option linter.unusedVariables false
set_option maxRecDepth 100000
set_option maxHeartbeats 1000000
namespace G
section
attribute [local irreducible] V.CW V.LW V.QW V.RW V.PQ V.Val V.Eff V.Qcall
open V (str byC ownV ownG ownS ownOk)
instance:Cal Tryz.prog 95:=⟨Tryz.call95⟩
instance:Cal Tryz.prog 96:=⟨Tryz.call96⟩
instance:Cal Tryz.prog 97:=⟨Tryz.call97⟩
instance:Cal Tryz.prog 98:=⟨Tryz.call98⟩
instance:Cal Tryz.prog 99:=⟨Tryz.call99⟩
instance:Cal Tryz.prog 100:=⟨Tryz.call100⟩
instance:Cal Tryz.prog 101:=⟨Tryz.call101⟩
instance:Cal Tryz.prog 102:=⟨Tryz.call102⟩
instance:Cal Tryz.prog 103:=⟨Tryz.call103⟩
instance:Cal Tryz.prog 104:=⟨Tryz.call104⟩
instance:Cal Tryz.prog 105:=⟨Tryz.call105⟩
instance:Cal Tryz.prog 106:=⟨Tryz.call106⟩
instance:Cal Tryz.prog 109:=⟨Tryz.call109⟩
instance:Cal Tryz.prog 110:=⟨Tryz.call110⟩
instance:Cal Tryz.prog 113:=⟨Tryz.call113⟩
instance:Cal Tryz.prog 116:=⟨Tryz.call116⟩
instance:Cal Tryz.prog 117:=⟨Tryz.call117⟩
instance:Cal Tryz.prog 118:=⟨Tryz.call118⟩
instance:Cal Tryz.prog 119:=⟨Tryz.call119⟩
instance:Cal Tryz.prog 120:=⟨Tryz.call120⟩
instance:Cal Tryz.prog 121:=⟨Tryz.call121⟩
instance:Cal Tryz.prog 122:=⟨Tryz.call122⟩
instance:Cal Tryz.prog 123:=⟨Tryz.call123⟩
theorem sta_sym {a b:List Tkn}(h:Stb.Sta tnK a b):Stb.Sta tnK b a:=⟨h.1.symm,fun k=>(h.2 k).symm⟩
theorem alikeA_g (x:ArR)(s:ArS)(xd:DvR)(k:Cnt)(a:RAw)(x2:DvR)(v:Dev)(th:Nat)(n e0:Int)(r:ROv)(hK:Alk th e0 s r)(hA:ArOk th v.D.length x s)(hO:RaOk a r)(ht:th≤100)(hP:(pairsOf v.D r.tl).length≤100000)(hQ:(textsOf v.D r.q).length≤100000):Rx Tryz.prog 48 [.pointer (some ⟨x.a,0,none⟩),.pointer (some ⟨a.ab,0,none⟩)] (arS x s xd.db++(dvS xd v.D k++raS a x2.db th n e0 r (rvS3 x2 v))) (.bool true):=by
 intro w hs
 obtain⟨pL,cL,hvL,_,hsL⟩:=own_slg (e:=165) lkC_len r.tl a.to hO.t
 obtain⟨pQ,cQ,hvQ,_,hsQ⟩:=own_slg (e:=165) lkC_len r.q a.qo hO.q
 refine Ca_ Tryz.func48 rfl Tryz.ntmps48 hs<|pA_ 8 ?_
 refine Le (Cr_ (anumbers_g x s)) fun _ _=>pA_ 10 ?_
 refine Le (CM (([(x.a,.cells (arC x s).toArray 256 (0,0))]::[ownG 259 (s.ef.flatMap efC) s.eo])) fun w hw hs0=>aeff0_g x s hA.ef th e0 r hK w hs0) fun o1 ho1=>?_
 obtain⟨p1,c1,hv1,_,hs1⟩:=own_slg (e:=259) efC_len ([]:List Eft) o1 ho1
 refine Lv Mv<|Le (Cm_ (ashelf0_g x s xd v.D k th e0 r hK hA)) fun y1 hy1=>?_
 obtain⟨pp1,cp1,hvp1,_,hsp1⟩:=own_slg (e:=263) prC_len (pairsOf v.D r.tl) y1.1 hy1.1
 obtain⟨pq1,cq1,hvq1,_,hsq1⟩:=own_slg (e:=9) txC_len (textsOf v.D r.q) y1.2 hy1.2
 refine Le AA fun b8 _=>Lv Av<|LeN (StW (cs:=[ownV (pairsOf v.D r.tl).length y1.1,ownV (textsOf v.D r.q).length y1.2]) (h1:=by simp[V.ownV_one])) fun _ _=>pA_ 3 ?_
 refine Dr ([[(a.ab,.cells (raC a x2.db r).toArray 162 (0,0))],[(b8,.cells [ownV (pairsOf v.D r.tl).length y1.1,ownV (textsOf v.D r.q).length y1.2].toArray 176 (0,0))]])<|pR_ [0,1,2,3] ?_
 refine Rv 4 rfl (Ld (v:= .int .u64 r.id))<|Rv 5 rfl Cm<|RW.re 25 (.bool true) rfl (by simp[hK.id])<|pR_ [6,7,8,9,10] ?_
 refine Rv 11 rfl (Ld (v:= .int .u64 r.ver))<|Rv 12 rfl Cm<|RW.re 32 (.bool true) rfl (by simp[hK.ver])<|pR_ [13,14,15] ?_
 refine RW.re 35 (.slice p1 0 c1) rfl hv1<|pR_ [16,17,18] ?_
 refine Rv 19 rfl (Ld (v:= .slice none 0 0))<|Re 20 rfl (Cz_ (sameEffects0_c p1 none c1 0)) fun _ _=>pR_ [21,22] ?_
 refine Rv 23 rfl (Lw (l:=[ownV (pairsOf v.D r.tl).length y1.1,ownV (textsOf v.D r.q).length y1.2]))<|RW.re 43 (.agg #[.slice pp1 (pairsOf v.D r.tl).length cp1,.slice pq1 (textsOf v.D r.q).length cq1]) rfl (by rw[hvp1,hvq1])<|Rv 24 rfl Mv<|Re 25 rfl (Cm_ (rshelf_g a x2 v th n e0 r hO ⟨hK.n.2.1,hK.n.2.2.1⟩ ⟨fun l h=>(hK.b2 l h).1,fun l h=>(hK.b3 l h).1⟩)) fun y2 hy2=>?_
 obtain⟨pp2,cp2,hvp2,_,hsp2⟩:=own_slg (e:=263) prC_len (pairsOf v.D r.tl) y2.1 hy2.1
 obtain⟨pq2,cq2,hvq2,_,hsq2⟩:=own_slg (e:=9) txC_len (textsOf v.D r.q) y2.2 hy2.2
 refine RW.re 45 (.agg #[.slice pp2 (pairsOf v.D r.tl).length cp2,.slice pq2 (textsOf v.D r.q).length cq2]) rfl (by rw[hvp2,hvq2])<|Re 26 rfl (CV fun w hw=>sameShelf_c (pairsOf v.D r.tl) (textsOf v.D r.q) hP hQ pp1 pq1 pp2 pq2 cp1 cq1 cp2 cq2 w (hsp1 hw pk_) (hsq1 hw pk_) (hsp2 hw pk_) (hsq2 hw pk_)) fun _ _=>pR_ [27,28,29,31] ?_
 refine Re 30 rfl (CM [] fun w hw hs0=>arooms0_g x s xd.db v.D.length th e0 r hK hA w (hw.sat.pick (ss:=arS x s xd.db) pk_)) fun y3 hy3=>?_
 obtain⟨o3,⟨L3,o4⟩,p5,p6,p7⟩:=y3
 obtain⟨hy3a,hy3b,ho3,ho4⟩:=hy3
 simp only at hy3a hy3b ho3 ho4
 obtain⟨p3,c3,hv3,_,hs3⟩:=own_slg (e:=268) tkC_len r.T o3 ho3
 obtain⟨p4,c4,hv4,_,hs4⟩:=own_slg (e:=268) tnC_len L3 o4 ho4
 refine RW.re 50 (.agg #[.slice p3 r.T.length c3,.slice p4 (L3.map tnP).length c4,.slice p5.1 0 p5.2,.slice p6.1 0 p6.2,.slice p7.1 0 p7.2]) rfl (by rw[← hv3,List.length_map,← hv4])<|Re 32 rfl (Cm_ (rrooms_g a x2 v th n e0 r hO ⟨hK.n.2.1,hK.n.2.2.1,hK.n.2.2.2.2⟩ ⟨fun l h=>(hK.b2 l h).2,fun l h=>(hK.b3 l h).2⟩)) fun y8 hy8=>?_
 obtain⟨o8,L8,o9⟩:=y8
 obtain⟨hy8a,hy8b,ho8,ho9⟩:=hy8
 simp only at hy8a hy8b ho8 ho9
 obtain rfl:L3=L8:=Stb.sta_uniq (Stb.Sta.trans (sta_sym hy3a) hy8a) hy3b hy8b
 have hL3:L3.length≤100000:=by have h8:=hy3a.1;rw[List.length_map,List.length_append] at h8;have:=hK.n.2.1;have:=hK.n.2.2.1;omega
 obtain⟨p8,c8,hv8,_,hs8⟩:=own_slg (e:=268) tkC_len r.T o8 ho8
 obtain⟨p9,c9,hv9,_,hs9⟩:=own_slg (e:=268) tnC_len L3 o9 ho9
 refine RW.re 52 (.agg #[.slice p8 r.T.length c8,.slice p9 (L3.map tnP).length c9,.slice none 0 0,.slice none 0 0,.slice none 0 0]) rfl (by rw[← hv8,List.length_map,← hv9])<|Re 33 rfl (CV fun w hw=>sameRooms_c r.T (L3.map tnP) hK.n.2.2.2.2 (by rw[List.length_map];exact hL3) p3 p4 p5.1 p6.1 p7.1 p8 p9 c3 c4 p5.2 p6.2 p7.2 c8 c9 w (hs3 hw pk_) (slAt_tn (hs4 hw pk_)) (hs8 hw pk_) (slAt_tn (hs9 hw pk_))) fun _ _=>pR_ [34,35] ?_
 refine pA_ 5 ?_
 refine Le (Cm_ (overEf0_c o1 ho1)) fun _ _=>pA_ 4 ?_
 refine Lv (Lw (l:=[ownV (pairsOf v.D r.tl).length y1.1,ownV (textsOf v.D r.q).length y1.2]))<|Le (Cm_ (overShelf_c (pairsOf v.D r.tl) (textsOf v.D r.q) y1.1 y1.2 hy1.1 hy1.2 hP hQ)) fun _ _=>pA_ 3 ?_
 refine Dr ([[(a.ab,.cells (raC a x2.db r).toArray 162 (0,0))],[(a.tb,.cells [ownV r.tl.length a.to].toArray 192 (0,0))],[(a.bb,.cells [.slice none 0 0].toArray 203 (0,0))]])<|pR_ [0,3,4,5] ?_
 refine Rv 6 rfl (Ld (v:= .pointer (some ⟨a.tb,0,none⟩)))<|pR_ [7,8] ?_
 refine Rv 9 rfl (Ld (v:=ownV r.tl.length a.to))<|RW.re 68 (.slice pL r.tl.length cL) rfl hvL<|Re 1 rfl (CV fun w hw=>atable_g x s w hw.at) fun _ _=>Re 2 rfl (Cm_ (tall0_g x.tb x.ms s hA.tb th e0 r hK)) fun o10 ho10=>?_
 obtain⟨p10,c10,hv10,_,hs10⟩:=own_slg (e:=165) lkC_len r.tl o10 ho10
 refine RW.re 61 (.slice p10 r.tl.length c10) rfl hv10<|Re 10 rfl (CV fun w hw=>sameLinks_c r.tl (by have:=hK.n.2.1;omega) p10 pL c10 cL w (hs10 hw pk_) (hsL hw pk_)) fun _ _=>pR_ [11,12,15,16,17] ?_
 refine Rv 18 rfl (Ld (v:= .pointer (some ⟨a.tb,0,none⟩)))<|pR_ [19,20] ?_
 refine Rv 21 rfl (Ld (v:=ownV r.tl.length a.to))<|RW.re 80 (.slice pL r.tl.length cL) rfl hvL<|Re 13 rfl (CV fun w hw=>aorder_g x s w hw.at) fun _ _=>Re 14 rfl (CM ((odS x.ob s.Lz)) fun w hw hs0=>oall0_g x.ob s hA.od.1 hA.od.2 th e0 r hK w hs0) fun o11 ho11=>?_
 obtain⟨p11,c11,hv11,_,hs11⟩:=own_slg (e:=165) lkC_len r.tl o11 ho11
 refine RW.re 73 (.slice p11 r.tl.length c11) rfl hv11<|Re 22 rfl (CV fun w hw=>sameLinks_c r.tl (by have:=hK.n.2.1;omega) p11 pL c11 cL w (hs11 hw pk_) (hsL hw pk_)) fun _ _=>pR_ [23,24,25,28,29,30] ?_
 refine Rv 31 rfl (Ld (v:=ownV r.q.length a.qo))<|RW.re 90 (.slice pQ r.q.length cQ) rfl hvQ<|Re 26 rfl (CV fun w hw=>aline_g x s w hw.at) fun _ _=>Re 27 rfl (CM ((rgS 288 x.fb s.rg s.ro)) fun w hw hs0=>lall0_g x.fb s hA.rg th e0 r hK w hs0) fun o12 ho12=>?_
 obtain⟨p12,c12,hv12,_,hs12⟩:=own_slg (e:=165) lkC_len r.q o12 ho12
 refine RW.re 86 (.slice p12 r.q.length c12) rfl hv12<|Re 32 rfl (CV fun w hw=>sameLinks_c r.q (by have:=hK.n.2.2.1;omega) p12 pQ c12 cQ w (hs12 hw pk_) (hsQ hw pk_)) fun _ _=>pR_ [33,34,35,38,39,40] ?_
 refine Rv 41 rfl (Ld (v:= .pointer (some ⟨a.bb,0,none⟩)))<|pR_ [42,43] ?_
 refine Rv 44 rfl (Ld (v:= .slice none 0 0))<|Re 36 rfl (CV fun w hw=>abag_g x s w hw.at) fun _ _=>Re 37 rfl (CM ((bgS x.lb s.bg s.bo)) fun w hw hs0=>ball0_g x.lb s hA.bg th e0 r hK w hs0) fun o13 ho13=>?_
 obtain⟨p13,c13,hv13,_,hs13⟩:=own_slg (e:=270) enC_len ([]:List Ent) o13 ho13
 refine RW.re 96 (.slice p13 0 c13) rfl hv13<|Re 45 rfl (Cz_ (sameEntries0_c p13 none c13 0)) fun _ _=>pR_ [46,47] ?_
 refine pA_ 3 ?_
 refine Dr ([[(a.ab,.cells (raC a x2.db r).toArray 162 (0,0))],[(a.cb,.cells (rkC a.nb th e0).toArray 210 (0,0))],[(a.rb,.cells [.slice (some ⟨a.rl,0,none⟩) th th,.int .u64 1].toArray 215 (0,0))]])<|pR_ [0,1,2,3,4,5,8,9,10] ?_
 refine Rv 11 rfl (Ld (v:= .pointer (some ⟨a.cb,0,none⟩)))<|Re 6 rfl (CV fun w hw=>aclock_g x s w hw.at) fun _ _=>Re 7 rfl (CM ((ckS x.cb x.wb s.ck)) fun w hw hs0=>kOwed0_g x.cb x.wb s th e0 r hK ht w hs0) fun o14 ho14=>?_
 obtain⟨p14,c14,hv14,_,hs14⟩:=own_slg (e:=3) inI_len (List.replicate th (0:Int)) o14 ho14
 refine RW.re 113 (.slice p14 (List.replicate th (0:Int)).length c14) rfl hv14<|Re 12 rfl (Cm_ (rowed_g a.cb a.nb th e0 ht)) fun o15 ho15=>?_
 obtain⟨p15,c15,hv15,_,hs15⟩:=own_slg (e:=3) inI_len (List.replicate th (0:Int)) o15 (by rw[List.length_replicate];exact ho15)
 rw[List.length_replicate] at hv15
 refine RW.re 118 (.slice p15 (List.replicate th (0:Int)).length c15) rfl (by rw[List.length_replicate];exact hv15)<|Re 13 rfl (CV fun w hw=>sameInts_c (List.replicate th (0:Int)) (by rw[List.length_replicate];omega) p14 p15 c14 c15 w (hs14 hw pk_) (hs15 hw pk_)) fun _ _=>pR_ [14,15,16,19,20,21] ?_
 refine Rv 22 rfl (Ld (v:= .pointer (some ⟨a.cb,0,none⟩)))<|pR_ [23,24] ?_
 refine Rv 25 rfl (Ld (v:= .int .u64 (e0+1)))<|Re 17 rfl (CV fun w hw=>aclock_g x s w hw.at) fun _ _=>Re 18 rfl (Cr_ (kNow_g x.cb x.wb s.ck)) fun _ _=>Rv 26 rfl Cm<|RW.re 132 (.bool true) rfl (by simp[hK.ck.1])<|pR_ [27,28,29,32,33,34] ?_
 refine Rv 35 rfl (Ld (v:= .pointer (some ⟨a.cb,0,none⟩)))<|pR_ [36,37] ?_
 refine Rv 38 rfl (Ld (v:= .int .u64 e0))<|Re 30 rfl (CV fun w hw=>aclock_g x s w hw.at) fun _ _=>Re 31 rfl (Cr_ (kDurable_g x.cb x.wb s.ck)) fun _ _=>Rv 39 rfl Cm<|RW.re 145 (.bool true) rfl (by simp[hK.ck.2.1])<|pR_ [40,41,42,45,46,47] ?_
 refine Rv 48 rfl (Ld (v:= .pointer (some ⟨a.rb,0,none⟩)))<|pR_ [49,50] ?_
 refine Rv 51 rfl (Ld (v:= .int .u64 1))<|Re 43 rfl (CV fun w hw=>areaders_g x s w hw.at) fun _ _=>Re 44 rfl (Cr_ (rNow_g x.rb x.hb s.rd)) ?_
 intro _ _
 refine Rv 52 rfl Cm<|RW.re 158 (.bool true) rfl (by simp[hK.rd])<|pR_ [53,54,55,57,58,59] ?_
 refine Rv 60 rfl (Ld (v:= .slice none 0 0))<|Re 56 rfl (CM (([(x.a,.cells (arC x s).toArray 256 (0,0))]::[ownG 259 (s.ef.flatMap efC) s.eo])) fun w hw hs0=>aeff0_g x s hA.ef th e0 r hK w hs0) fun o16 ho16=>?_
 obtain⟨p16,c16,hv16,_,hs16⟩:=own_slg (e:=259) efC_len ([]:List Eft) o16 ho16
 refine RW.re 162 (.slice p16 0 c16) rfl hv16<|Re 61 rfl (Cz_ (sameEffects0_c p16 none c16 0)) fun _ _=>pR_ [62,63] ?_
 refine pA_ 4 ?_
 exact fr_ hs
end
end G
end Go.Proofs.YteejleakfbnpcaaGreat
