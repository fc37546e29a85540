import Derived.Test.YteejleakfbnpcaaGreatQa5
/- What the law leans on, part 6. -/
namespace Go.Proofs.YteejleakfbnpcaaGreat
open Go Go.RowKit V
set_option linter.unusedVariables false
set_option maxRecDepth 100000
set_option maxHeartbeats 1000000
namespace G
section
attribute [local irreducible] V.CW V.LW V.QW V.RW V.PQ V.Val V.Eff V.Qcall
open V (str byC ownV ownG ownS ownOk)
instance:Cal Tryz.prog 169:=⟨Tryz.call169⟩
theorem rshelf_g (a:RAw)(x:DvR)(v:Dev)(th:Nat)(n e0:Int)(r:ROv)(hO:RaOk a r)(hn:r.tl.length≤1000∧r.q.length≤1000)(hln:(∀l∈r.tl,-1000000≤l.line∧l.line≤1000000)∧(∀l∈r.q,-1000000≤l.line∧l.line≤1000000)):Mo Tryz.prog 100 [.pointer (some ⟨a.ab,0,none⟩)] (raS a x.db th n e0 r (rvS3 x v)) (fun y:V.OwnO×V.OwnO=>ownOk 2 (pairsOf v.D r.tl).length ((pairsOf v.D r.tl).flatMap prC) y.1∧ownOk 1 (textsOf v.D r.q).length ((textsOf v.D r.q).flatMap txC) y.2) (fun y=> .agg #[ownV (pairsOf v.D r.tl).length y.1,ownV (textsOf v.D r.q).length y.2]) (fun y=>ownG 263 ((pairsOf v.D r.tl).flatMap prC) y.1::ownG 9 ((textsOf v.D r.q).flatMap txC) y.2::raS a x.db th n e0 r (rvS3 x v)):=by
 intro w hs
 obtain⟨ab,pb,rb,rl,cb,nb,bb,tb,po,tO,qO⟩:=a
 have hOt:ownOk 5 r.tl.length (r.tl.flatMap lkC) tO:=hO.t
 have hOq:ownOk 5 r.q.length (r.q.flatMap lkC) qO:=hO.q
 clear hO
 obtain⟨pL,cL,hvL,_,_⟩:=own_slg (e:=165) lkC_len r.tl tO hOt
 obtain⟨pQ,cQ,hvQ,_,_⟩:=own_slg (e:=165) lkC_len r.q qO hOq
 refine Cs_ (raS ⟨ab,pb,rb,rl,cb,nb,bb,tb,po,tO,qO⟩ x.db th n e0 r (rvS3 x v)) Tryz.func100 rfl Tryz.ntmps100 hs<|Sq<|Rg<|Le AA fun b2 _=>pA_ 4 ?_
 refine Le AA fun b3 _=>pA_ 9 ?_
 refine nilSeg<|loopA (γ:=Nat×V.OwnO) (fun i=>[(0,.pointer (some ⟨ab,0,none⟩)),(2,.pointer (some ⟨b2,0,none⟩)),(3,.pointer (some ⟨b3,0,none⟩)),(4,.int .i64 (i.1:Nat))]) (fun i=>[(b3,.cells [ownV (pairsOf v.D (r.tl.take i.1)).length i.2,ownV ([]:List (List UInt8)).length none].toArray 176 (0,0))]::ownG 263 ((pairsOf v.D (r.tl.take i.1)).flatMap prC) i.2::[(b2,.cells [.slice none 0 0,.slice none 0 0].toArray 176 (0,0))]::raS ⟨ab,pb,rb,rl,cb,nb,bb,tb,po,tO,qO⟩ x.db th n e0 r (rvS3 x v)) (fun i=>i.1≤r.tl.length∧ownOk 2 (pairsOf v.D (r.tl.take i.1)).length ((pairsOf v.D (r.tl.take i.1)).flatMap prC) i.2) (fun i=>r.tl.length-i.1) ((0,none)) ⟨Nat.zero_le _,rfl,rfl⟩ fun i=>?_
 rintro⟨hi1,hi2⟩
 refine pA_ 7 ?_
 refine Lv (Ld (v:= .pointer (some ⟨tb,0,none⟩)))<|Lv Nz<|Lv (Fa 0 159)<|Lv (Ld (v:=ownV r.tl.length tO))<|LW.re 17 (.slice pL r.tl.length cL) rfl hvL<|pA_ 4 ?_
 refine Cd_ rfl (fun h19=>?_) fun h19=>?_
 ·have hik:i.1<r.tl.length:=by omega
  obtain⟨l,hl⟩:∃l,r.tl[i.1]? =some l:=⟨r.tl[i.1]'hik,by simp⟩
  have hll:=hln.1 l (List.mem_of_getElem? hl)
  obtain⟨g,rest,cap,hoL⟩:∃g r2 c,tO=some (g,r2,c):=by
   rcases tO with _|⟨g,r2,c⟩
   ·exact absurd hOt.2 om_
   ·exact⟨g,r2,c,rfl⟩
  subst hoL
  have hpL:pL=some ⟨g,0,none⟩:=by
   have h8:ownV r.tl.length (some (g,rest,cap))= .slice (some ⟨g,0,none⟩) r.tl.length cap:=rfl
   rw[h8] at hvL
   injection hvL with h9
   exact h9.symm
  subst hpL
  obtain⟨r9,hr9⟩:=V.drop_flatMap lkC_len r.tl i.1 l hl
  have hr8:(r.tl.flatMap lkC++rest).drop (i.1*5)=lkC l++(r9++rest):=by
   rw[List.drop_append_of_le_length (by rw[V.flatMap_len lkC_len];omega),hr9,List.append_assoc]
  have hk8:(r.tl.flatMap lkC++rest)[i.1*5]? =some (str l.key):=by rw[← List.head?_drop,hr8];rfl
  refine pA_ 10 ?_
  refine Lv (Ld (v:= .pointer (some ⟨tb,0,none⟩)))<|Lv Nz<|Lv (Fa 0 159)<|Lv (Ld (v:=ownV r.tl.length (some (g,rest,cap))))<|LW.re 30 (.slice (some ⟨g,0,none⟩) r.tl.length cL) rfl hvL<|Lv Mv<|Lv (Val.indexAddrN (i:=i.1) rfl rfl Tryz.underlying159 Tryz.sizeOf165 om_)<|LW.re 32 (.pointer (some ⟨g,i.1*5,none⟩)) rfl (by simp)<|Lv (La (lkC l) (hl:=hr8))<|Le (Cr_ (rvalue_g ⟨ab,pb,rb,rl,cb,nb,bb,tb,po,(some (g,rest,cap)),qO⟩ r x v l 1 hll)) fun _ _=>pA_ 12 ?_
  refine Cd_ rfl (fun h37=>?_) fun h37=>?_
  ·have h37:valK v.D l 1=true:=h37
   have hst2:pairsOf v.D (r.tl.take (i.1+1))=(pairsOf v.D (r.tl.take i.1))++[(l.key,(valB v.D l).val)]:=by unfold pairsOf;rw[fm_take hl,if_pos h37];rfl
   have hle:=fm_le (f:=fun l=>if valK v.D l 1=true then some (l.key,(valB v.D l).val) else none) r.tl i.1
   replace hle:(pairsOf v.D (r.tl.take i.1)).length≤r.tl.length:=hle
   refine Dr ([[(ab,.cells (raC ⟨ab,pb,rb,rl,cb,nb,bb,tb,po,(some (g,rest,cap)),qO⟩ x.db r).toArray 162 (0,0))],[(tb,.cells [ownV r.tl.length (some (g,rest,cap))].toArray 192 (0,0))],ownG 165 (r.tl.flatMap lkC) (some (g,rest,cap))])<|Rv 0 rfl (Fa 0 173)<|Rv 2 rfl Mv<|Rv 3 rfl Nz<|Rv 4 rfl (Fa 5 158)<|Rv 5 rfl (Ld (v:= .pointer (some ⟨tb,0,none⟩)))<|Rv 6 rfl Nz<|Rv 7 rfl (Fa 0 159)<|Rv 8 rfl (Ld (v:=ownV r.tl.length (some (g,rest,cap))))<|RW.re 46 (.slice (some ⟨g,0,none⟩) r.tl.length cL) rfl hvL<|Rv 9 rfl Mv<|Rv 10 rfl (Val.indexAddrN (i:=i.1) rfl rfl Tryz.underlying159 Tryz.sizeOf165 om_)<|RW.re 48 (.pointer (some ⟨g,i.1*5,none⟩)) rfl (by simp)<|Rv 11 rfl (Fa 0 9)<|Rv 12 rfl (Ld (v:=str l.key) (hl:=hk8))<|Rv 13 rfl Mv<|RW.re 51 (str (valB v.D l).val) rfl (by rw[h37];rfl)<|Rv 14 rfl (Bd (prC (l.key,(valB v.D l).val)))<|V.RW.batchY [1,15] 15 53 [(1,39,_)] 3 rfl kr_ rfl rfl rfl rfl rfl (by simp) (by simp) ⟨_,rfl,rfl,rfl,Eff.buildSlice (rfl) [_,_] Tryz.underlying173 Tryz.sizeOf263 (by exact Tryz.zeroValue263) rfl rfl rfl rfl (by rfl)⟩ ⟨⟨_,rfl,rfl,rfl,Eff.ofVal (Ld (v:=ownV (pairsOf v.D (r.tl.take i.1)).length i.2))⟩,trivial⟩ (fun _ _=>⟨⟨_,rfl,rfl,rfl,Eff.ofVal (Ld (v:=ownV (pairsOf v.D (r.tl.take i.1)).length i.2))⟩,trivial⟩) ⟨_,pk_⟩ (fun _ _=>⟨_,pk_⟩) fun b53 _=>Re 16 rfl (Eff.appendAny (prC (l.key,(valB v.D l).val)) (sz:=2) (bytes:=32) (z:= .agg #[.string ⟨#[]⟩,.string ⟨#[]⟩]) (xs:=(pairsOf v.D (r.tl.take i.1)).flatMap prC) (m0:=(pairsOf v.D (r.tl.take i.1)).length) (o:=i.2) (m:=1) (pk:=[ownG 263 ((pairsOf v.D (r.tl.take i.1)).flatMap prC) (i.2)]) rfl rfl Tryz.underlying173 kr_ rfl om_ pk_ (by simp) hi2 (by rfl) (fun hm0=>⟨b53,0,rfl,fun w hw=>V.range_of_block (o:=0) (cs:=prC (l.key,(valB v.D l).val)) (r:=[]) (hw.own _ (show InS (b53,.cells (prC (l.key,(valB v.D l).val)).toArray 263 (0,0)) _ from in_).mem) rfl⟩) (by rfl) om_ om_) ?_
   intro o2 ho2
   refine Rv 17 rfl (Fa 0 173)<|ReN 18 rfl (Eff.store (l':=[ownV ((pairsOf v.D (r.tl.take i.1)).length+1) o2,ownV ([]:List (List UInt8)).length none]) rfl rfl (V.ownV_one _ _) up_ (by rfl) (by rfl) Tryz.sizeOf173) fun _ _=>pA_ 8 ?_
   rw[← show(pairsOf v.D (r.tl.take (i.1+1))).flatMap prC=(pairsOf v.D (r.tl.take i.1)).flatMap prC++prC (l.key,(valB v.D l).val) by rw[hst2,List.flatMap_append];rfl]
   rw[← show(pairsOf v.D (r.tl.take (i.1+1))).length=(pairsOf v.D (r.tl.take i.1)).length+1 by rw[hst2,List.length_append];rfl]
   exact roundA ((i.1+1,o2)) ⟨by simp only;omega,by simp only;rw[hst2,List.flatMap_append,List.length_append];exact ho2⟩ (by simp only;omega)
  ·have h37:valK v.D l 1=false:=h37
   have hst2:pairsOf v.D (r.tl.take (i.1+1))=(pairsOf v.D (r.tl.take i.1)):=by unfold pairsOf;rw[fm_take hl,if_neg (by rw[h37];decide)];simp
   refine pA_ 8 ?_
   rw[← hst2]
   exact roundA ((i.1+1,i.2)) ⟨by simp only;omega,by simp only;rw[hst2];exact hi2⟩ (by simp only;omega)
 ·obtain⟨i1,pO⟩:=i
  have hi9:i1=r.tl.length:=by simp only at hi1 h19;omega
  subst hi9
  replace hi2:ownOk 2 (pairsOf v.D r.tl).length ((pairsOf v.D r.tl).flatMap prC) pO:=by have h8:=hi2;simp only[List.take_length] at h8;exact h8
  have hi0:=hi2
  simp only[List.take_length]
  refine pA_ 12 ?_
  refine nilSeg<|loopA (γ:=Nat×V.OwnO) (fun i=>[(0,.pointer (some ⟨ab,0,none⟩)),(2,.pointer (some ⟨b2,0,none⟩)),(3,.pointer (some ⟨b3,0,none⟩)),(7,.int .i64 (i.1:Nat))]) (fun i=>[(b3,.cells [ownV (pairsOf v.D r.tl).length pO,ownV (textsOf v.D (r.q.take i.1)).length i.2].toArray 176 (0,0))]::ownG 9 ((textsOf v.D (r.q.take i.1)).flatMap txC) i.2::ownG 263 ((pairsOf v.D r.tl).flatMap prC) pO::[(b2,.cells [.slice none 0 0,.slice none 0 0].toArray 176 (0,0))]::raS ⟨ab,pb,rb,rl,cb,nb,bb,tb,po,tO,qO⟩ x.db th n e0 r (rvS3 x v)) (fun i=>i.1≤r.q.length∧ownOk 1 (textsOf v.D (r.q.take i.1)).length ((textsOf v.D (r.q.take i.1)).flatMap txC) i.2) (fun i=>r.q.length-i.1) ((0,none)) ⟨Nat.zero_le _,rfl,rfl⟩ fun i=>?_
  rintro⟨hi1,hi2⟩
  refine pA_ 7 ?_
  refine Lv (Ld (v:=ownV r.q.length qO))<|LW.re 60 (.slice pQ r.q.length cQ) rfl hvQ<|pA_ 4 ?_
  refine Cd_ rfl (fun h62=>?_) fun h62=>?_
  ·have hik:i.1<r.q.length:=by omega
   obtain⟨l,hl⟩:∃l,r.q[i.1]? =some l:=⟨r.q[i.1]'hik,by simp⟩
   have hll:=hln.2 l (List.mem_of_getElem? hl)
   obtain⟨g,rest,cap,hoL⟩:∃g r2 c,qO=some (g,r2,c):=by
    rcases qO with _|⟨g,r2,c⟩
    ·exact absurd hOq.2 om_
    ·exact⟨g,r2,c,rfl⟩
   subst hoL
   have hpL:pQ=some ⟨g,0,none⟩:=by
    have h8:ownV r.q.length (some (g,rest,cap))= .slice (some ⟨g,0,none⟩) r.q.length cap:=rfl
    rw[h8] at hvQ
    injection hvQ with h9
    exact h9.symm
   subst hpL
   obtain⟨r9,hr9⟩:=V.drop_flatMap lkC_len r.q i.1 l hl
   have hr8:(r.q.flatMap lkC++rest).drop (i.1*5)=lkC l++(r9++rest):=by
    rw[List.drop_append_of_le_length (by rw[V.flatMap_len lkC_len];omega),hr9,List.append_assoc]
   have hk8:(r.q.flatMap lkC++rest)[i.1*5]? =some (str l.key):=by rw[← List.head?_drop,hr8];rfl
   refine pA_ 10 ?_
   refine Lv (Ld (v:=ownV r.q.length (some (g,rest,cap))))<|LW.re 70 (.slice (some ⟨g,0,none⟩) r.q.length cQ) rfl hvQ<|Lv Mv<|Lv (Val.indexAddrN (i:=i.1) rfl rfl Tryz.underlying159 Tryz.sizeOf165 om_)<|LW.re 72 (.pointer (some ⟨g,i.1*5,none⟩)) rfl (by simp)<|Lv (La (lkC l) (hl:=hr8))<|Le (Cr_ (rvalue_g ⟨ab,pb,rb,rl,cb,nb,bb,tb,po,tO,(some (g,rest,cap))⟩ r x v l 2 hll)) fun _ _=>pA_ 12 ?_
   refine Cd_ rfl (fun h77=>?_) fun h77=>?_
   ·have h77:valK v.D l 2=true:=h77
    have hst2:textsOf v.D (r.q.take (i.1+1))=(textsOf v.D (r.q.take i.1))++[(valB v.D l).val]:=by unfold textsOf;rw[fm_take hl,if_pos h77];rfl
    have hle:=fm_le (f:=fun l=>if valK v.D l 2=true then some (valB v.D l).val else none) r.q i.1
    replace hle:(textsOf v.D (r.q.take i.1)).length≤r.q.length:=hle
    refine Rg<|Lv (Fa 1 174)<|Lv (Ld (v:=ownV (textsOf v.D (r.q.take i.1)).length i.2))<|Lv Mv<|LW.re 80 (str (valB v.D l).val) rfl (by rw[h77];rfl)<|Le (Eff.buildSlice (rfl) [_] Tryz.underlying174 Tryz.sizeOf9 (by exact Tryz.zeroValue9) rfl rfl rfl rfl (by rfl)) fun b81 _=>Le (Eff.appendAny (txC (valB v.D l).val) (sz:=1) (bytes:=16) (z:= .string ⟨#[]⟩) (xs:=(textsOf v.D (r.q.take i.1)).flatMap txC) (m0:=(textsOf v.D (r.q.take i.1)).length) (o:=i.2) (m:=1) (pk:=[ownG 9 ((textsOf v.D (r.q.take i.1)).flatMap txC) (i.2)]) rfl rfl Tryz.underlying174 kr_ rfl om_ pk_ (by simp) hi2 (by rfl) (fun hm0=>⟨b81,0,rfl,fun w hw=>V.range_of_block (o:=0) (cs:=txC (valB v.D l).val) (r:=[]) (hw.own _ (show InS (b81,.cells (txC (valB v.D l).val).toArray 9 (0,0)) _ from in_).mem) rfl⟩) (by rfl) om_ om_) fun o2 ho2=>Lv (Fa 1 174)<|LeN (Eff.store (l':=[ownV (pairsOf v.D r.tl).length pO,ownV ((textsOf v.D (r.q.take i.1)).length+1) o2]) rfl rfl (V.ownV_one _ _) up_ (by rfl) (by rfl) Tryz.sizeOf174) fun _ _=>Nl<|Bn<|Ps<|Rg<|Lv Mv<|Lv Ar<|Lv Av<|Nl ?_
    rw[← show(textsOf v.D (r.q.take (i.1+1))).flatMap txC=(textsOf v.D (r.q.take i.1)).flatMap txC++txC (valB v.D l).val by rw[hst2,List.flatMap_append];rfl]
    rw[← show(textsOf v.D (r.q.take (i.1+1))).length=(textsOf v.D (r.q.take i.1)).length+1 by rw[hst2,List.length_append];rfl]
    exact roundA ((i.1+1,o2)) ⟨by simp only;omega,by simp only;rw[hst2,List.flatMap_append,List.length_append];exact ho2⟩ (by simp only;omega)
   ·have h77:valK v.D l 2=false:=h77
    have hst2:textsOf v.D (r.q.take (i.1+1))=(textsOf v.D (r.q.take i.1)):=by unfold textsOf;rw[fm_take hl,if_neg (by rw[h77];decide)];simp
    refine pA_ 8 ?_
    rw[← hst2]
    exact roundA ((i.1+1,i.2)) ⟨by simp only;omega,by simp only;rw[hst2];exact hi2⟩ (by simp only;omega)
  ·obtain⟨i1,qo⟩:=i
   have hi9:i1=r.q.length:=by simp only at hi1 h62;omega
   subst hi9
   replace hi2:ownOk 1 (textsOf v.D r.q).length ((textsOf v.D r.q).flatMap txC) qo:=by have h8:=hi2;simp only[List.take_length] at h8;exact h8
   simp only[List.take_length]
   refine Xt<|Te<|Te<|Bh<|Ps<|Sq<|Rg<|Lv (Lw (l:=[ownV (pairsOf v.D r.tl).length pO,ownV (textsOf v.D r.q).length qo]))<|LeN (StW (cs:=[ownV (pairsOf v.D r.tl).length pO,ownV (textsOf v.D r.q).length qo]) (h1:=by simp[V.ownV_one])) fun _ _=>Nl<|Ps<|Rt<|PQ.retC (l:=[ownV (pairsOf v.D r.tl).length pO,ownV (textsOf v.D r.q).length qo]) rfl rfl in_ Tryz.isAgg176 (by exact Tryz.sizeOf176) ?_
   exact fi_ (pO,qo) ⟨hi0,hi2⟩
end
section
attribute [local irreducible] V.CW V.LW V.QW V.RW V.PQ V.Val V.Eff V.Qcall
open V (str byC ownV ownG ownS ownOk)
instance:Cal Tryz.prog 293:=⟨Tryz.call293⟩
structure Tkn where
 line:Int
 cls:Int
 b: -1000000≤cls∧cls≤1000000
def tnC (y:Tkn):List Value:=[.int .i64 y.line,.int .i64 y.cls]
theorem tnC_len (y:Tkn):(tnC y).length=2:=rfl
def tnK (y:Tkn):Int:=y.line*4000000+y.cls
namespace Stt
open Stb
theorem tnC_one (s:Tkn):(tnC s).all (·.oneCell')=true:=rfl
def cmpE (a b:Int):Int:=if a<b then -1 else if b<a then 1 else 0
theorem cmpE_lt {a b:Int}:cmpE a b<0↔a<b:=by unfold cmpE;(repeat' split)<;>omega
theorem cmpE_ge {a b:Int}:0≤cmpE a b↔b≤a:=by have:= @cmpE_lt a b;omega
theorem byTn_c (a b:Tkn):Rz Tryz.prog 211 [.agg (tnC a).toArray,.agg (tnC b).toArray] (.int .i64 (cmpE (tnK a) (tnK b))):=by
 intro w
 refine Cb_ Tryz.func211 rfl Tryz.ntmps211<|Sq<|Rg<|Le XA fun b2 _=>Le XA fun b3 _=>pA_ 7 ?_
 refine Lv (Ld (v:= .int .i64 a.line))<|Lv (Fa 0 3)<|Lv (Ld (v:= .int .i64 b.line))<|pA_ 3 ?_
 refine Cd_ rfl (fun h9=>?_) fun h9=>?_
 ·have h9:¬a.line=b.line:=by simpa using h9
  refine pA_ 4 ?_
  refine Lv (Ld (v:= .int .i64 a.line))<|Lv (Fa 0 3)<|Lv (Ld (v:= .int .i64 b.line))<|pA_ 3 ?_
  refine Cd_ rfl (fun h14=>?_) fun h14=>?_
  ·refine pA_ 9 ?_
   have ha9:=a.b
   have hb9:=b.b
   have e1:cmpE (tnK a) (tnK b)= -1:=by unfold cmpE tnK;(repeat' split)<;>omega
   rw[e1]
   exact fb_
  ·refine pA_ 10 ?_
   have ha9:=a.b
   have hb9:=b.b
   have e1:cmpE (tnK a) (tnK b)=1:=by unfold cmpE tnK;(repeat' split)<;>omega
   rw[e1]
   exact fb_
 ·have h9:a.line=b.line:=by simpa using h9
  refine pA_ 6 ?_
  refine Lv (Ld (v:= .int .i64 a.cls))<|Lv (Fa 1 3)<|Lv (Ld (v:= .int .i64 b.cls))<|pA_ 3 ?_
  refine Cd_ rfl (fun h19=>?_) fun h19=>?_
  ·refine pA_ 8 ?_
   have ha9:=a.b
   have hb9:=b.b
   have e1:cmpE (tnK a) (tnK b)= -1:=by unfold cmpE tnK;(repeat' split)<;>omega
   rw[e1]
   exact fb_
  ·refine pA_ 6 ?_
   refine Lv (Ld (v:= .int .i64 a.cls))<|Lv (Fa 1 3)<|Lv (Ld (v:= .int .i64 b.cls))<|pA_ 3 ?_
   refine Cd_ rfl (fun h24=>?_) fun h24=>?_
   ·refine pA_ 8 ?_
    have ha9:=a.b
    have hb9:=b.b
    have e1:cmpE (tnK a) (tnK b)=1:=by unfold cmpE tnK;(repeat' split)<;>omega
    rw[e1]
    exact fb_
   ·refine pA_ 9 ?_
    have ha9:=a.b
    have hb9:=b.b
    have e1:cmpE (tnK a) (tnK b)=0:=by unfold cmpE tnK;(repeat' split)<;>omega
    rw[e1]
    exact fb_
theorem ins_c (g cap n a b:Nat)(rest:List Value)(X M Y:List Tkn)(hn:(X++(M++Y)).length=n)(ha:X.length=a)(hb:a+M.length=b)(hm:n≤100000)(w:World)(hs:Sat [[(g,.cells ((X++(M++Y)).flatMap tnC++rest).toArray 268 (0,0))]] w):Calls Tryz.prog 265 [.slice (some ⟨g,0,none⟩) n cap,.int .i64 (a:Nat),.int .i64 (b:Nat),.func (.func 211) #[] #[]].toArray w fun e w'=>∃M':List Tkn,(Sta tnK M M'∧Up tnK M')∧e= .returned (.tuple #[])∧Hp ⟨w,[g]⟩ [[(g,.cells ((X++(M'++Y)).flatMap tnC++rest).toArray 268 (0,0))]] w':=by
 have hlen:X.length+(M.length+Y.length)=n:=by simpa using hn
 refine Cs_ [[(g,.cells ((X++(M++Y)).flatMap tnC++rest).toArray 268 (0,0))]] Tryz.func265 rfl Tryz.ntmps265 hs<|pA_ 8 ?_
 rw[show X++(M++Y)=X++((M.take 1++M.drop 1)++Y) from by rw[List.take_append_drop]]
 refine loopA (γ:=Nat×List Tkn) (fun k=>[(0,.slice (some ⟨g,0,none⟩) n cap),(1,.int .i64 (a:Nat)),(2,.int .i64 (b:Nat)),(3,.func (.func 211) #[] #[]),(8,.int .i64 ((a+k.1:Nat):Int))]) (fun k=>[[(g,.cells ((X++((k.2++M.drop k.1)++Y)).flatMap tnC++rest).toArray 268 (0,0))]]) (fun k=>Sta tnK (M.take k.1) k.2∧Up tnK k.2∧(1≤k.1∧(k.1≤M.length∨k.1=1))) (fun k=>n+1-k.1) ((1,M.take 1)) ⟨Sta.refl _,by cases M<;>simp[Up],Nat.le_refl _,.inr rfl⟩ fun k=>?_
 rintro⟨hS1,hM1,hk1,hk2⟩
 refine pA_ 8 ?_
 refine Cd_ rfl (fun h14=>?_) fun h14=>?_
 ·refine pA_ 11 ?_
  have hkM:k.1<M.length:=by omega
  obtain⟨x,hx⟩:∃x,M[k.1]? =some x:=⟨M[k.1],by simp⟩
  have hl1:k.2.length=k.1:=by rw[hS1.1,List.length_take];omega
  rw[show X++((k.2++M.drop k.1)++Y)=X++((k.2.take (k.1)++x::k.2.drop (k.1))++(M.drop (k.1+1)++Y)) from by rw[(List.take_of_length_le om_:k.2.take k.1=k.2),(List.drop_eq_nil_iff.2 om_:k.2.drop k.1=[]),drop_cons hx];simp]
  refine loopA (γ:=Nat) (fun t=>[(0,.slice (some ⟨g,0,none⟩) n cap),(1,.int .i64 (a:Nat)),(2,.int .i64 (b:Nat)),(3,.func (.func 211) #[] #[]),(8,.int .i64 ((a+k.1:Nat):Int)),(9,.int .i64 ((a+t:Nat):Int))]) (fun t=>[[(g,.cells ((X++((k.2.take (t)++x::k.2.drop (t))++(M.drop (k.1+1)++Y))).flatMap tnC++rest).toArray 268 (0,0))]]) (fun t=>t≤k.1∧∀y∈k.2.drop t,(tnK x)<(tnK y)) (fun t=>t) (k.1) ⟨Nat.le_refl _,fun y hy=>by rw[List.drop_eq_nil_iff.2 om_] at hy;cases hy⟩ fun t=>?_
  rintro⟨ht1,ht2⟩
  refine Sq<|Sq<|Qt<|pA_ 4 ?_
  refine QW.split (d:=21) rfl (fun h21=>?_) (fun h21=>?_)
  ·replace h21:=bT h21
   obtain⟨u,hu⟩:∃u,k.2[t-1]? =some u:=⟨k.2[t-1]'om_,by simp⟩
   have hc:X++((k.2.take (t)++x::k.2.drop (t))++(M.drop (k.1+1)++Y))=(X++k.2.take (t-1))++u::([]++x::(k.2.drop t++(M.drop (k.1+1)++Y))):=by
    have e:=take_snoc hu
    rw[show t-1+1=t by omega] at e
    rw[e];simp
   have h1:(X++((k.2.take (t)++x::k.2.drop (t))++(M.drop (k.1+1)++Y)))[a+t]? =some x:=by
    rw[hc,show(X++k.2.take (t-1))++u::([]++x::(k.2.drop t++(M.drop (k.1+1)++Y)))=(X++k.2.take (t-1)++[u])++x::(k.2.drop t++(M.drop (k.1+1)++Y)) from by simp]
    exact at_app _ _ _ _ (by simp;omega)
   have h2:(X++((k.2.take (t)++x::k.2.drop (t))++(M.drop (k.1+1)++Y)))[a+t-1]? =some u:=by rw[hc];exact at_app _ _ _ _ (by simp;omega)
   have hsw:((X++((k.2.take (t)++x::k.2.drop (t))++(M.drop (k.1+1)++Y))).set (a+t) u).set (a+t-1) x=X++((k.2.take (t-1)++x::k.2.drop (t-1))++(M.drop (k.1+1)++Y)):=by
    rw[hc,swp' _ _ _ _ _ _ _ (by simp;omega) (by simp;omega)]
    have e:=drop_cons hu
    rw[show t-1+1=t by omega] at e
    rw[e];simp
   have hll:(X++((k.2.take (t)++x::k.2.drop (t))++(M.drop (k.1+1)++Y))).length=n:=by simp;omega
   refine Qv Mv<|Qv Mv<|Qv Mv<|Qv Ix<|Qv (Val.loadFl (enc:=tnC) rfl Tryz.isAgg268 in_ tnC_len h1 Tryz.sizeOf268)<|Qv Mv<|Qv Mv<|Qv Ar<|QW.re 29 (.int .i64 ((a+t-1:Nat):Int)) rfl (by congr 1;omega)<|Qv Ix<|Qv (Val.loadFl (enc:=tnC) rfl Tryz.isAgg268 in_ tnC_len h2 Tryz.sizeOf268)<|Qc (Qcall.ofF (f:=211) (caps:=[]) rfl rfl Tryz.call211 (fun w hw=>byTn_c x u w))<|Qv Cm<|Qv Pt<|Ql<|Ps ?_
   refine Cd_ rfl (fun h34=>?_) fun h34=>?_
   ·refine pA_ 4 ?_
    refine Dr ([])<|pR_ [0,1,2,3,4] ?_
    refine RW.re 41 (.int .i64 ((a+t-1:Nat):Int)) rfl (by congr 1;omega)<|pR_ [5,6,7] ?_
    refine RW.re 44 (.int .i64 ((a+t-1:Nat):Int)) rfl (by congr 1;omega)<|pR_ [8,10,11,12] ?_
    refine RW.any [9,13] kr_ (by simp) fun i hi=>?_
    simp only[List.mem_cons,List.not_mem_nil,or_false] at hi
    rcases hi with rfl|rfl
    ·refine Ro rfl (Eff.ofVal (Val.loadFl (enc:=tnC) rfl Tryz.isAgg268 in_ tnC_len h2 Tryz.sizeOf268)) fun _ _=>Re 13 rfl (Eff.ofVal (Val.loadFl (enc:=tnC) rfl Tryz.isAgg268 in_ tnC_len h1 Tryz.sizeOf268)) fun _ _=>Rv 14 rfl Ix<|ReN 15 rfl (Eff.storeFl (enc:=tnC) (sz:=2) rfl rfl up_ tnC_len (by first|omega|(simp only[List.length_set];omega)) Tryz.sizeOf268 tnC_one) fun _ _=>Rv 16 rfl Ix<|ReN 17 rfl (Eff.storeFl (enc:=tnC) (sz:=2) rfl rfl up_ tnC_len (by first|omega|(simp only[List.length_set];omega)) Tryz.sizeOf268 tnC_one) fun _ _=>Rd<|Bn<|Ps<|Rg<|Lv Mv<|Lv Ar<|LW.re 36 (.int .i64 ((a+(t-1):Nat):Int)) rfl (by congr 1;omega)<|Lv Av<|Nl ?_
     rw[hsw]
     refine PQ.round (t-1) ⟨by omega,fun y hy=>by
      rw[drop_cons hu,show t-1+1=t by omega] at hy
      rcases List.mem_cons.1 hy with rfl|hy
      ·exact cmpE_lt.1 h34
      ·exact ht2 y hy⟩ om_ (by repeat(first|exact trivial|refine⟨rfl,?_⟩)) pk_
    ·refine Ro rfl (Eff.ofVal (Val.loadFl (enc:=tnC) rfl Tryz.isAgg268 in_ tnC_len h1 Tryz.sizeOf268)) fun _ _=>Re 9 rfl (Eff.ofVal (Val.loadFl (enc:=tnC) rfl Tryz.isAgg268 in_ tnC_len h2 Tryz.sizeOf268)) fun _ _=>Rv 14 rfl Ix<|ReN 15 rfl (Eff.storeFl (enc:=tnC) (sz:=2) rfl rfl up_ tnC_len (by first|omega|(simp only[List.length_set];omega)) Tryz.sizeOf268 tnC_one) fun _ _=>Rv 16 rfl Ix<|ReN 17 rfl (Eff.storeFl (enc:=tnC) (sz:=2) rfl rfl up_ tnC_len (by first|omega|(simp only[List.length_set];omega)) Tryz.sizeOf268 tnC_one) fun _ _=>Rd<|Bn<|Ps<|Rg<|Lv Mv<|Lv Ar<|LW.re 36 (.int .i64 ((a+(t-1):Nat):Int)) rfl (by congr 1;omega)<|Lv Av<|Nl ?_
     rw[hsw]
     refine PQ.round (t-1) ⟨by omega,fun y hy=>by
      rw[drop_cons hu,show t-1+1=t by omega] at hy
      rcases List.mem_cons.1 hy with rfl|hy
      ·exact cmpE_lt.1 h34
      ·exact ht2 y hy⟩ om_ (by repeat(first|exact trivial|refine⟨rfl,?_⟩)) pk_
   ·refine pA_ 11 ?_
    have hup:Up tnK (k.2.take t++x::k.2.drop t):=ins_up hM1 t x (fun y hy=>by have:=ht2 y hy;omega) (fun y hy=>by
     obtain⟨j,hj1,hj2⟩:=mem_take hy
     have:=hM1.get hj2 hu om_
     have:=cmpE_ge.1 h34
     omega)
    rw[show X++((k.2.take (t)++x::k.2.drop (t))++(M.drop (k.1+1)++Y))=X++(((k.2.take t++x::k.2.drop t)++M.drop (k.1+1))++Y) from by simp]
    exact roundA ((k.1+1,k.2.take t++x::k.2.drop t)) ⟨by simp only;rw[take_snoc hx];exact(hS1.app (Sta.refl [x])).trans (ins_sta k.2 t x ht2),hup,by simp only;omega⟩ (by simp only;omega)
  ·replace h21:=bF h21
   refine pA_ 27 ?_
   have hup:Up tnK (k.2.take t++x::k.2.drop t):=ins_up hM1 t x (fun y hy=>by have:=ht2 y hy;omega) (fun y hy=>by
    obtain rfl:t=0:=by omega
    simp at hy)
   rw[show X++((k.2.take (t)++x::k.2.drop (t))++(M.drop (k.1+1)++Y))=X++(((k.2.take t++x::k.2.drop t)++M.drop (k.1+1))++Y) from by simp]
   exact roundA ((k.1+1,k.2.take t++x::k.2.drop t)) ⟨by simp only;rw[take_snoc hx];exact(hS1.app (Sta.refl [x])).trans (ins_sta k.2 t x ht2),hup,by simp only;omega⟩ (by simp only;omega)
 ·refine pA_ 4 ?_
  refine PQ.end0 rfl fun w' hw=>?_
  refine⟨k.2,⟨?_,hM1⟩,rfl,?_⟩
  ·have:=hS1;rwa [List.take_of_length_le om_] at this
  ·rw[show X++((k.2++M.drop k.1)++Y)=X++(k.2++Y) from by rw[List.drop_eq_nil_iff.2 om_];simp] at hw
   exact hw
theorem swr_c (g cap n a b m:Nat)(rest:List Value)(X U Z Rr Y L L':List Tkn)(hL:L=X++(U++(Z++(Rr++Y))))(hL':X++(Rr++(Z++(U++Y)))=L')(hn:L.length=n)(ha:X.length=a)(hb:a+U.length+Z.length=b)(hU:U.length=m)(hV:Rr.length=m)(hm:n≤100000)(w:World)(hs:Sat [[(g,.cells ((L).flatMap tnC++rest).toArray 268 (0,0))]] w):Calls Tryz.prog 293 [.slice (some ⟨g,0,none⟩) n cap,.int .i64 (a:Nat),.int .i64 (b:Nat),.int .i64 (m:Nat),.func (.func 211) #[] #[]].toArray w fun e w'=>∃_u:Unit,True∧e= .returned (.tuple #[])∧Hp ⟨w,[g]⟩ [[(g,.cells ((L').flatMap tnC++rest).toArray 268 (0,0))]] w':=by
 subst hL
 have hlen:X.length+(U.length+(Z.length+(Rr.length+Y.length)))=n:=by simpa using hn
 refine Cs_ [[(g,.cells ((X++(U++(Z++(Rr++Y)))).flatMap tnC++rest).toArray 268 (0,0))]] Tryz.func293 rfl Tryz.ntmps293 hs<|pA_ 6 ?_
 rw[show X++(U++(Z++(Rr++Y)))=X++((Rr.take (0)++U.drop (0))++(Z++((U.take (0)++Rr.drop (0))++Y))) from by simp]
 refine loopA (γ:=Nat) (fun t=>[(0,.slice (some ⟨g,0,none⟩) n cap),(1,.int .i64 (a:Nat)),(2,.int .i64 (b:Nat)),(3,.int .i64 (m:Nat)),(10,.int .i64 (t:Nat))]) (fun t=>[[(g,.cells ((X++((Rr.take (t)++U.drop (t))++(Z++((U.take (t)++Rr.drop (t))++Y)))).flatMap tnC++rest).toArray 268 (0,0))]]) (fun t=>t≤m) (fun t=>m-t) (0) (Nat.zero_le _) fun t ht=>pA_ 8 ?_
 refine Cd_ rfl (fun h13=>?_) fun h13=>?_
 ·obtain⟨u,hu⟩:∃u,U[t]? =some u:=⟨U[t]'om_,by simp⟩
  obtain⟨v,hv⟩:∃v,Rr[t]? =some v:=⟨Rr[t]'om_,by simp⟩
  have hc:X++((Rr.take (t)++U.drop (t))++(Z++((U.take (t)++Rr.drop (t))++Y)))=(X++Rr.take t)++u::((U.drop (t+1)++(Z++U.take t))++v::(Rr.drop (t+1)++Y)):=by rw[drop_cons hu,drop_cons hv];simp
  have h1:(X++((Rr.take (t)++U.drop (t))++(Z++((U.take (t)++Rr.drop (t))++Y))))[a+t]? =some u:=by rw[hc];exact at_app _ _ _ _ (by simp;omega)
  have h2:(X++((Rr.take (t)++U.drop (t))++(Z++((U.take (t)++Rr.drop (t))++Y))))[b+t]? =some v:=by
   rw[hc,show(X++Rr.take t)++u::((U.drop (t+1)++(Z++U.take t))++v::(Rr.drop (t+1)++Y))=(X++Rr.take t++u::(U.drop (t+1)++(Z++U.take t)))++v::(Rr.drop (t+1)++Y) from by simp]
   exact at_app _ _ _ _ (by simp;omega)
  have hsw:((X++((Rr.take (t)++U.drop (t))++(Z++((U.take (t)++Rr.drop (t))++Y)))).set (a+t) v).set (b+t) u=X++((Rr.take (t+1)++U.drop (t+1))++(Z++((U.take (t+1)++Rr.drop (t+1))++Y))):=by
   rw[hc,swp _ _ _ _ _ _ _ (by simp;omega) (by simp;omega),take_snoc hu,take_snoc hv];simp
  have hll:(X++((Rr.take (t)++U.drop (t))++(Z++((U.take (t)++Rr.drop (t))++Y)))).length=n:=by simp;omega
  refine pA_ 4 ?_
  refine Dr ([])<|pR_ [0,1,2,3] ?_
  refine RW.re 19 (.int .i64 ((a+t:Nat):Int)) rfl (by congr 1)<|pR_ [4,5,6,7] ?_
  refine RW.re 23 (.int .i64 ((b+t:Nat):Int)) rfl (by congr 1)<|pR_ [8,9,10,11] ?_
  refine RW.re 27 (.int .i64 ((b+t:Nat):Int)) rfl (by congr 1)<|pR_ [12,14,15,16,17] ?_
  refine RW.re 33 (.int .i64 ((a+t:Nat):Int)) rfl (by congr 1)<|Rv 18 rfl Ix<|RW.any [13,19] kr_ (by simp) fun i hi=>?_
  simp only[List.mem_cons,List.not_mem_nil,or_false] at hi
  rcases hi with rfl|rfl
  ·refine Ro rfl (Eff.ofVal (Val.loadFl (enc:=tnC) rfl Tryz.isAgg268 in_ tnC_len h2 Tryz.sizeOf268)) fun _ _=>Re 19 rfl (Eff.ofVal (Val.loadFl (enc:=tnC) rfl Tryz.isAgg268 in_ tnC_len h1 Tryz.sizeOf268)) fun _ _=>Rv 20 rfl Ix<|ReN 21 rfl (Eff.storeFl (enc:=tnC) (sz:=2) rfl rfl up_ tnC_len (by first|omega|(simp only[List.length_set];omega)) Tryz.sizeOf268 tnC_one) fun _ _=>Rv 22 rfl Ix<|ReN 23 rfl (Eff.storeFl (enc:=tnC) (sz:=2) rfl rfl up_ tnC_len (by first|omega|(simp only[List.length_set];omega)) Tryz.sizeOf268 tnC_one) fun _ _=>Rd<|Bn<|Ps<|Rg<|Lv Mv<|Lv Ar<|Lv Av<|Nl ?_
   rw[hsw]
   exact roundA (t+1) om_ om_
  ·refine Ro rfl (Eff.ofVal (Val.loadFl (enc:=tnC) rfl Tryz.isAgg268 in_ tnC_len h1 Tryz.sizeOf268)) fun _ _=>Re 13 rfl (Eff.ofVal (Val.loadFl (enc:=tnC) rfl Tryz.isAgg268 in_ tnC_len h2 Tryz.sizeOf268)) fun _ _=>Rv 20 rfl Ix<|ReN 21 rfl (Eff.storeFl (enc:=tnC) (sz:=2) rfl rfl up_ tnC_len (by first|omega|(simp only[List.length_set];omega)) Tryz.sizeOf268 tnC_one) fun _ _=>Rv 22 rfl Ix<|ReN 23 rfl (Eff.storeFl (enc:=tnC) (sz:=2) rfl rfl up_ tnC_len (by first|omega|(simp only[List.length_set];omega)) Tryz.sizeOf268 tnC_one) fun _ _=>Rd<|Bn<|Ps<|Rg<|Lv Mv<|Lv Ar<|Lv Av<|Nl ?_
   rw[hsw]
   exact roundA (t+1) om_ om_
 ·refine pA_ 4 ?_
  refine PQ.end0 rfl fun w' hw=>?_
  obtain rfl:t=m:=by omega
  refine⟨(),trivial,rfl,?_⟩
  rw[show X++((Rr.take (t)++U.drop (t))++(Z++((U.take (t)++Rr.drop (t))++Y)))=L' from by rw[← hL',List.take_of_length_le (Nat.le_of_eq hV),List.take_of_length_le (Nat.le_of_eq hU),List.drop_eq_nil_iff.2 (Nat.le_of_eq hV),List.drop_eq_nil_iff.2 (Nat.le_of_eq hU)];simp] at hw
  exact hw
theorem rot_c (g cap n a m b:Nat)(rest:List Value)(X U Rr Y L L':List Tkn)(hL:L=X++(U++(Rr++Y)))(hL':X++(Rr++(U++Y))=L')(hn:L.length=n)(ha:X.length=a)(hmm:a+U.length=m)(hb:m+Rr.length=b)(hU:0<U.length)(hV:0<Rr.length)(hm:n≤100000)(w:World)(hs:Sat [[(g,.cells ((L).flatMap tnC++rest).toArray 268 (0,0))]] w):Calls Tryz.prog 282 [.slice (some ⟨g,0,none⟩) n cap,.int .i64 (a:Nat),.int .i64 (m:Nat),.int .i64 (b:Nat),.func (.func 211) #[] #[]].toArray w fun e w'=>∃_u:Unit,True∧e= .returned (.tuple #[])∧Hp ⟨w,[g]⟩ [[(g,.cells ((L').flatMap tnC++rest).toArray 268 (0,0))]] w':=by
 subst hL
 have hlen:X.length+(U.length+(Rr.length+Y.length))=n:=by simpa using hn
 refine Cs_ [[(g,.cells ((X++(U++(Rr++Y))).flatMap tnC++rest).toArray 268 (0,0))]] Tryz.func282 rfl Tryz.ntmps282 hs<|pA_ 18 ?_
 rw[show X++(U++(Rr++Y))=X++([]++(U++(Rr++([]++Y)))) from by simp]
 refine CW.loop (γ:=List Tkn×List Tkn×List Tkn×List Tkn) (fun k=>[(0,.slice (some ⟨g,0,none⟩) n cap),(2,.int .i64 (m:Nat)),(4,.func (.func 211) #[] #[]),(10,.int .i64 (k.2.1.length:Nat)),(11,.int .i64 (k.2.2.1.length:Nat))]) (fun k=>[[(g,.cells ((X++(k.1++(k.2.1++(k.2.2.1++(k.2.2.2++Y))))).flatMap tnC++rest).toArray 268 (0,0))]]) (fun k=>0<k.2.1.length∧0<k.2.2.1.length∧X.length+k.1.length+k.2.1.length=m∧k.1++(k.2.2.1++(k.2.1++k.2.2.2))=Rr++U) (fun k=>k.2.1.length+k.2.2.1.length) (([],U,Rr,[])) ⟨hU,hV,by simp;omega,by simp⟩ (by exact⟨rfl,rfl,rfl,congrArg (fun z:Int=>some (Value.int .i64 z)) (by simp only;omega),congrArg (fun z:Int=>some (Value.int .i64 z)) (by simp only;omega),trivial⟩) pk_ fun k=>?_
 rintro⟨hk1,hk2,hk3,hk4⟩
 have hlk:k.1.length+(k.2.2.1.length+(k.2.1.length+k.2.2.2.length))=Rr.length+U.length:=by simpa using congrArg List.length hk4
 refine pA_ 8 ?_
 refine Cd_ rfl (fun h20=>?_) fun h20=>?_
 ·refine pA_ 10 ?_
  refine Cd_ rfl (fun h23=>?_) fun h23=>?_
  ·refine pA_ 6 ?_
   refine LW.re 27 (.int .i64 ((m-k.2.1.length:Nat):Int)) rfl (by congr 1;omega)<|pA_ 3 ?_
   refine Le (CM ([[(g,.cells ((X++(k.1++(k.2.1++(k.2.2.1++(k.2.2.2++Y))))).flatMap tnC++rest).toArray 268 (0,0))]]) fun w hw hs=>swr_c g cap n (m-k.2.1.length) (m) (k.2.2.1.length) rest (X++k.1) (k.2.1.take k.2.2.1.length) (k.2.1.drop k.2.2.1.length) (k.2.2.1) (k.2.2.2++Y) (X++(k.1++(k.2.1++(k.2.2.1++(k.2.2.2++Y))))) (X++((k.1++k.2.2.1)++(k.2.1.drop k.2.2.1.length++(k.2.1.take k.2.2.1.length++(k.2.2.2++Y))))) (by rw[← List.append_assoc (k.2.1.take _),List.take_append_drop];simp) (by simp) (by first|(simp;done)|(simp;omega)|omega) (by first|(simp;done)|(simp;omega)|omega) (by first|(simp;done)|(simp;omega)|omega) (by first|(simp;done)|(simp;omega)|omega) (by first|(simp;done)|(simp;omega)|omega) hm w hs) fun _ _=>pA_ 6 ?_
   refine LW.re 34 (.int .i64 ((k.2.1.length-k.2.2.1.length:Nat):Int)) rfl (by congr 1;omega)<|pA_ 3 ?_
   refine PQ.round ((k.1++k.2.2.1,k.2.1.drop k.2.2.1.length,k.2.1.take k.2.2.1.length,k.2.2.2)) ⟨by simp;omega,by simp;omega,by simp;omega,by rw[← hk4];simp only[List.append_assoc];rw[← List.append_assoc (k.2.1.take _),List.take_append_drop]⟩ (by simp;omega) (by exact⟨rfl,rfl,rfl,congrArg (fun z:Int=>some (Value.int .i64 z)) (by simp),congrArg (fun z:Int=>some (Value.int .i64 z)) (by simp;omega),trivial⟩) pk_
  ·refine pA_ 6 ?_
   refine LW.re 38 (.int .i64 ((m-k.2.1.length:Nat):Int)) rfl (by congr 1;omega)<|pA_ 5 ?_
   refine LW.re 43 (.int .i64 ((m+k.2.2.1.length-k.2.1.length:Nat):Int)) rfl (by congr 1;omega)<|Lv Mv<|Lv Mv<|Le (CM ([[(g,.cells ((X++(k.1++(k.2.1++(k.2.2.1++(k.2.2.2++Y))))).flatMap tnC++rest).toArray 268 (0,0))]]) fun w hw hs=>swr_c g cap n (m-k.2.1.length) (m+k.2.2.1.length-k.2.1.length) (k.2.1.length) rest (X++k.1) (k.2.1) (k.2.2.1.take (k.2.2.1.length-k.2.1.length)) (k.2.2.1.drop (k.2.2.1.length-k.2.1.length)) (k.2.2.2++Y) (X++(k.1++(k.2.1++(k.2.2.1++(k.2.2.2++Y))))) (X++(k.1++(k.2.2.1.drop (k.2.2.1.length-k.2.1.length)++(k.2.2.1.take (k.2.2.1.length-k.2.1.length)++((k.2.1++k.2.2.2)++Y))))) (by rw[← List.append_assoc (k.2.2.1.take _),List.take_append_drop];simp) (by simp) (by first|(simp;done)|(simp;omega)|omega) (by first|(simp;done)|(simp;omega)|omega) (by first|(simp;done)|(simp;omega)|omega) (by first|(simp;done)|(simp;omega)|omega) (by first|(simp;done)|(simp;omega)|omega) hm w hs) fun _ _=>pA_ 6 ?_
   refine LW.re 49 (.int .i64 ((k.2.2.1.length-k.2.1.length:Nat):Int)) rfl (by congr 1;omega)<|pA_ 3 ?_
   refine PQ.round ((k.1,k.2.2.1.drop (k.2.2.1.length-k.2.1.length),k.2.2.1.take (k.2.2.1.length-k.2.1.length),k.2.1++k.2.2.2)) ⟨by simp;omega,by simp;omega,by simp;omega,by rw[← hk4];simp only;rw[← List.append_assoc (k.2.2.1.take _),List.take_append_drop]⟩ (by simp;omega) (by exact⟨rfl,rfl,rfl,congrArg (fun z:Int=>some (Value.int .i64 z)) (by simp;omega),congrArg (fun z:Int=>some (Value.int .i64 z)) (by simp),trivial⟩) pk_
 ·refine pA_ 10 ?_
  refine LW.re 53 (.int .i64 ((m-k.2.1.length:Nat):Int)) rfl (by congr 1;omega)<|pA_ 3 ?_
  refine Le (CM ([[(g,.cells ((X++(k.1++(k.2.1++(k.2.2.1++(k.2.2.2++Y))))).flatMap tnC++rest).toArray 268 (0,0))]]) fun w hw hs=>swr_c g cap n (m-k.2.1.length) (m) (k.2.1.length) rest (X++k.1) (k.2.1) ([]) (k.2.2.1) (k.2.2.2++Y) (X++(k.1++(k.2.1++(k.2.2.1++(k.2.2.2++Y))))) (X++(k.1++(k.2.2.1++(k.2.1++(k.2.2.2++Y))))) (by simp) (by simp) (by first|(simp;done)|(simp;omega)|omega) (by first|(simp;done)|(simp;omega)|omega) (by first|(simp;done)|(simp;omega)|omega) (by first|(simp;done)|(simp;omega)|omega) (by first|(simp;done)|(simp;omega)|omega) hm w hs) fun _ _=>Nl<|PQ.end0 rfl fun w' hw=>?_
  refine⟨(),trivial,rfl,?_⟩
  rw[show X++(k.1++(k.2.2.1++(k.2.1++(k.2.2.2++Y))))=L' from by rw[← hL',← List.append_assoc Rr,← hk4];simp] at hw
  exact hw
end Stt
end
end G
end Go.Proofs.YteejleakfbnpcaaGreat
namespace Go.Proofs.YteejleakfbnpcaaGreat
open Go Go.RowKit V
set_option linter.unusedVariables false
set_option maxRecDepth 100000
namespace G
section
attribute [local irreducible] V.CW V.LW V.QW V.RW V.PQ V.Val V.Eff V.Qcall
open V (str byC ownV ownG ownS ownOk)
instance:Cal Tryz.prog 266:=⟨Tryz.call266⟩
instance:Cal Tryz.prog 282:=⟨Tryz.call282⟩
namespace Stt
open Stb
theorem mid_eq (p q r:Nat)(h:p+q<2^62)(hr:r=(p+q)/2):Value.int .i64 (IntKind.i64.wrap ((IntKind.u64.wrap ((p:Int)+(q:Int))).fdiv (2^(min (1:Int).toNat IntKind.u64.bits))))= .int .i64 ((r:Nat):Int):=by
 have e0:IntKind.u64.wrap ((p:Int)+(q:Int))=((p+q:Nat):Int):=by rw[← Int.natCast_add];exact IntWalk.u64_in _ om_
 have e1:((p+q:Nat):Int).fdiv (2^(min (1:Int).toNat IntKind.u64.bits))=((r:Nat):Int):=by
  rw[show(min (1:Int).toNat IntKind.u64.bits)=1 from by decide]
  rw[hr,Int.fdiv_eq_ediv_of_nonneg _ (by decide)]
  simp
 rw[e0,e1,IntWalk.i64_in _ om_]
set_option maxHeartbeats 2000000 in
theorem sym_c (g cap n:Nat)(rest:List Value)(hm:n≤100000):∀(N a m b:Nat) (X A B Y L:List Tkn),A.length+B.length≤N→L=X++(A++(B++Y))→L.length=n→X.length=a→a+A.length=m→m+B.length=b→0<A.length→0<B.length→Up tnK A→Up tnK B→∀w:World,Sat [[(g,.cells ((L).flatMap tnC++rest).toArray 268 (0,0))]] w→
 Calls Tryz.prog 266 [.slice (some ⟨g,0,none⟩) n cap,.int .i64 (a:Nat),.int .i64 (m:Nat),.int .i64 (b:Nat),.func (.func 211) #[] #[]].toArray w fun e w'=>∃M':List Tkn,(Sta tnK (A++B) M'∧Up tnK M')∧e= .returned (.tuple #[])∧Hp ⟨w,[g]⟩ [[(g,.cells ((X++(M'++Y)).flatMap tnC++rest).toArray 268 (0,0))]] w':=by
 intro N
 induction N with
 |zero=>intro a m b X A B Y L h1 _ _ _ _ _ h2 _ _ _ w _;omega
 |succ N ih=>
  intro a m b X A B Y L hN hL hn ha hmm hb hA0 hB0 hA hB w hs
  subst hL
  have hlen:X.length+(A.length+(B.length+Y.length))=n:=by simpa using hn
  refine Cs_ [[(g,.cells ((X++(A++(B++Y))).flatMap tnC++rest).toArray 268 (0,0))]] Tryz.func266 rfl Tryz.ntmps266 hs<|pA_ 9 ?_
  refine Cd_ rfl (fun h28=>?_) fun h28=>?_
  ·obtain⟨x,rfl⟩:=List.length_eq_one_iff.1 (by omega:A.length=1)
   have hmx:a+1=m:=hmm
   refine pA_ 14 ?_
   refine CW.loop (γ:=Nat×Nat) (fun k=>[(0,.slice (some ⟨g,0,none⟩) n cap),(1,.int .i64 ((a:Nat):Int)),(2,.int .i64 ((m:Nat):Int)),(4,.func (.func 211) #[] #[]),(10,.int .i64 ((m+k.1:Nat):Int)),(11,.int .i64 ((m+k.2:Nat):Int))]) (fun _=>[[(g,.cells ((X++([x]++(B++Y))).flatMap tnC++rest).toArray 268 (0,0))]]) (fun k=>k.1≤k.2∧k.2≤B.length∧(∀y∈B.take k.1,(tnK y)<(tnK x))∧(∀y∈B.drop k.2,(tnK x)≤(tnK y))) (fun k=>k.2-k.1) ((0,B.length)) ⟨Nat.zero_le _,Nat.le_refl _,by simp,by simp⟩ (by exact⟨rfl,rfl,rfl,rfl,rfl,congrArg (fun z:Int=>some (Value.int .i64 z)) (by first|omega|(simp only;omega)),trivial⟩) pk_ fun k=>?_
   rintro⟨hk1,hk2,hk3,hk4⟩
   refine pA_ 8 ?_
   refine Cd_ rfl (fun h33=>?_) fun h33=>?_
   ·obtain⟨c,hc⟩:∃c,c=(k.1+k.2)/2:=⟨_,rfl⟩
    obtain⟨y,hy⟩:∃y,B[c]? =some y:=⟨B[c]'om_,by simp⟩
    have h1:(X++([x]++(B++Y)))[m+c]? =some y:=by rw[List.getElem?_append_right om_,List.getElem?_append_right (by simp;omega),List.getElem?_append_left (by simp;omega)];rw[show m+c-X.length- [x].length=c by simp;omega];exact hy
    have h2:(X++([x]++(B++Y)))[a]? =some x:=by rw[List.getElem?_append_right om_];simp[ha]
    refine Sk<|Ps<|Bk<|Sq<|Rg<|Lv Mv<|Lv Mv<|Lv Ar<|Lv Cv<|Lv (Val.shr rfl rfl om_)<|Lv Cv<|LW.re 39 (.int .i64 ((m+c:Nat):Int)) rfl (mid_eq (m+k.1) (m+k.2) _ om_ om_)<|Lv Av<|Nl<|Ps<|Sq<|Qt<|Qv Mv<|Qv Mv<|Qv Mv<|Qv Ix<|Qv (Val.loadFl (enc:=tnC) rfl Tryz.isAgg268 in_ tnC_len h1 Tryz.sizeOf268)<|Qv Mv<|Qv Mv<|Qv Ix<|Qv (Val.loadFl (enc:=tnC) rfl Tryz.isAgg268 in_ tnC_len h2 Tryz.sizeOf268)<|Qc (Qcall.ofF (f:=211) (caps:=[]) rfl rfl Tryz.call211 (fun w hw=>byTn_c y x w))<|Qv Cm<|Ql<|Ps ?_
    refine Cd_ rfl (fun h50=>?_) fun h50=>?_
    ·rw[cmpE_lt] at h50
     refine pA_ 6 ?_
     refine PQ.round ((c+1,k.2)) ⟨by simp only;omega,hk2,fun z hz=>by
      obtain⟨j,hj1,hj2⟩:=mem_take hz
      have:=hB.get hj2 hy om_
      omega,hk4⟩ (by simp only;omega) (by repeat(first|exact trivial|refine⟨rfl,?_⟩)) pk_
    ·rw[cmpE_ge] at h50
     refine pA_ 5 ?_
     refine PQ.round ((k.1,c)) ⟨by simp only;omega,by simp only;omega,hk3,fun z hz=>by
      obtain⟨j,hj1,hj2⟩:=mem_drop hz
      have:=hB.get hy hj2 om_
      omega⟩ (by simp only;omega) (by repeat(first|exact trivial|refine⟨rfl,?_⟩)) pk_
   ·refine pA_ 13 ?_
    obtain⟨s,r⟩:=k
    simp only at hk1 hk2 hk3 hk4 h33
    obtain rfl:s=r:=by omega
    rw[show X++([x]++(B++Y))=X++((B.take (0)++x::B.drop (0))++Y) from by simp]
    refine loopA (γ:=Nat) (fun t=>[(0,.slice (some ⟨g,0,none⟩) n cap),(10,.int .i64 ((m+s:Nat):Int)),(13,.int .i64 ((a+t:Nat):Int))]) (fun t=>[[(g,.cells ((X++((B.take (t)++x::B.drop (t))++Y)).flatMap tnC++rest).toArray 268 (0,0))]]) (fun t=>t≤s) (fun t=>s-t) (0) (Nat.zero_le _) fun t ht=>pA_ 9 ?_
    refine Cd_ rfl (fun h58=>?_) fun h58=>?_
    ·obtain⟨v,hv⟩:∃v,B[t]? =some v:=⟨B[t]'om_,by simp⟩
     have hcc:X++((B.take (t)++x::B.drop (t))++Y)=(X++B.take t)++x::([]++v::(B.drop (t+1)++Y)):=by rw[drop_cons hv];simp
     have h1:(X++((B.take (t)++x::B.drop (t))++Y))[a+t]? =some x:=by rw[hcc];exact at_app _ _ _ _ (by simp;omega)
     have h2:(X++((B.take (t)++x::B.drop (t))++Y))[a+t+1]? =some v:=by
      rw[hcc,show(X++B.take t)++x::([]++v::(B.drop (t+1)++Y))=(X++B.take t++[x])++v::(B.drop (t+1)++Y) from by simp]
      exact at_app _ _ _ _ (by simp;omega)
     have hsw:((X++((B.take (t)++x::B.drop (t))++Y)).set (a+t) v).set (a+t+1) x=X++((B.take (t+1)++x::B.drop (t+1))++Y):=by
      rw[hcc,swp _ _ _ _ _ _ _ (by simp;omega) (by simp;omega),take_snoc hv];simp
     have hll:(X++((B.take (t)++x::B.drop (t))++Y)).length=n:=by simp at hlen⊢;omega
     refine pA_ 4 ?_
     refine Dr ([])<|pR_ [0,1,2,3,4] ?_
     refine RW.re 65 (.int .i64 ((a+t+1:Nat):Int)) rfl (by congr 1)<|pR_ [5,6,7] ?_
     refine RW.re 68 (.int .i64 ((a+t+1:Nat):Int)) rfl (by congr 1)<|pR_ [8,10,11,12] ?_
     refine RW.any [9,13] kr_ (by simp) fun i hi=>?_
     simp only[List.mem_cons,List.not_mem_nil,or_false] at hi
     rcases hi with rfl|rfl
     ·refine Ro rfl (Eff.ofVal (Val.loadFl (enc:=tnC) rfl Tryz.isAgg268 in_ tnC_len h2 Tryz.sizeOf268)) fun _ _=>Re 13 rfl (Eff.ofVal (Val.loadFl (enc:=tnC) rfl Tryz.isAgg268 in_ tnC_len h1 Tryz.sizeOf268)) fun _ _=>Rv 14 rfl Ix<|ReN 15 rfl (Eff.storeFl (enc:=tnC) (sz:=2) rfl rfl up_ tnC_len (by first|omega|(simp only[List.length_set];omega)) Tryz.sizeOf268 tnC_one) fun _ _=>Rv 16 rfl Ix<|ReN 17 rfl (Eff.storeFl (enc:=tnC) (sz:=2) rfl rfl up_ tnC_len (by first|omega|(simp only[List.length_set];omega)) Tryz.sizeOf268 tnC_one) fun _ _=>Rd<|Bn<|Ps<|Rg<|Lv Mv<|Lv Ar<|Lv Av<|Nl ?_
      rw[hsw]
      exact roundA (t+1) om_ om_
     ·refine Ro rfl (Eff.ofVal (Val.loadFl (enc:=tnC) rfl Tryz.isAgg268 in_ tnC_len h1 Tryz.sizeOf268)) fun _ _=>Re 9 rfl (Eff.ofVal (Val.loadFl (enc:=tnC) rfl Tryz.isAgg268 in_ tnC_len h2 Tryz.sizeOf268)) fun _ _=>Rv 14 rfl Ix<|ReN 15 rfl (Eff.storeFl (enc:=tnC) (sz:=2) rfl rfl up_ tnC_len (by first|omega|(simp only[List.length_set];omega)) Tryz.sizeOf268 tnC_one) fun _ _=>Rv 16 rfl Ix<|ReN 17 rfl (Eff.storeFl (enc:=tnC) (sz:=2) rfl rfl up_ tnC_len (by first|omega|(simp only[List.length_set];omega)) Tryz.sizeOf268 tnC_one) fun _ _=>Rd<|Bn<|Ps<|Rg<|Lv Mv<|Lv Ar<|Lv Av<|Nl ?_
      rw[hsw]
      exact roundA (t+1) om_ om_
    ·refine pA_ 7 ?_
     refine PQ.ret0 rfl fun w' hw=>?_
     obtain rfl:t=s:=by omega
     exact⟨B.take t++x::B.drop t,⟨ins_sta' B t x hk3,ins_up hB t x hk4 (fun z hz=>by have:=hk3 z hz;omega)⟩,rfl,hw⟩
  ·refine pA_ 11 ?_
   refine Cd_ rfl (fun h80=>?_) fun h80=>?_
   ·obtain⟨y,rfl⟩:=List.length_eq_one_iff.1 (by omega:B.length=1)
    have hby:m+1=b:=hb
    refine pA_ 14 ?_
    refine CW.loop (γ:=Nat×Nat) (fun k=>[(0,.slice (some ⟨g,0,none⟩) n cap),(1,.int .i64 ((a:Nat):Int)),(2,.int .i64 ((m:Nat):Int)),(4,.func (.func 211) #[] #[]),(14,.int .i64 ((a+k.1:Nat):Int)),(15,.int .i64 ((a+k.2:Nat):Int))]) (fun _=>[[(g,.cells ((X++(A++([y]++Y))).flatMap tnC++rest).toArray 268 (0,0))]]) (fun k=>k.1≤k.2∧k.2≤A.length∧(∀z∈A.take k.1,(tnK z)≤(tnK y))∧(∀z∈A.drop k.2,(tnK y)<(tnK z))) (fun k=>k.2-k.1) ((0,A.length)) ⟨Nat.zero_le _,Nat.le_refl _,by simp,by simp⟩ (by exact⟨rfl,rfl,rfl,rfl,rfl,congrArg (fun z:Int=>some (Value.int .i64 z)) (by first|omega|(simp only;omega)),trivial⟩) pk_ fun k=>?_
    rintro⟨hk1,hk2,hk3,hk4⟩
    refine pA_ 8 ?_
    refine Cd_ rfl (fun h85=>?_) fun h85=>?_
    ·obtain⟨c,hc⟩:∃c,c=(k.1+k.2)/2:=⟨_,rfl⟩
     obtain⟨z,hz⟩:∃z,A[c]? =some z:=⟨A[c]'om_,by simp⟩
     have h1:(X++(A++([y]++Y)))[m]? =some y:=by rw[List.getElem?_append_right om_,List.getElem?_append_right om_];rw[show m-X.length-A.length=0 by omega];rfl
     have h2:(X++(A++([y]++Y)))[a+c]? =some z:=by rw[List.getElem?_append_right om_,List.getElem?_append_left om_,show a+c-X.length=c by omega];exact hz
     refine Sk<|Ps<|Bk<|Sq<|Rg<|Lv Mv<|Lv Mv<|Lv Ar<|Lv Cv<|Lv (Val.shr rfl rfl om_)<|Lv Cv<|LW.re 91 (.int .i64 ((a+c:Nat):Int)) rfl (mid_eq (a+k.1) (a+k.2) _ om_ om_)<|Lv Av<|Nl<|Ps<|Sq<|Qt<|Qv Mv<|Qv Mv<|Qv Mv<|Qv Ix<|Qv (Val.loadFl (enc:=tnC) rfl Tryz.isAgg268 in_ tnC_len h1 Tryz.sizeOf268)<|Qv Mv<|Qv Mv<|Qv Ix<|Qv (Val.loadFl (enc:=tnC) rfl Tryz.isAgg268 in_ tnC_len h2 Tryz.sizeOf268)<|Qc (Qcall.ofF (f:=211) (caps:=[]) rfl rfl Tryz.call211 (fun w hw=>byTn_c y z w))<|Qv Cm<|Qv Nt<|Ql<|Ps ?_
     refine Cd_ rfl (fun h103=>?_) fun h103=>?_
     ·rw[cmpE_ge] at h103
      refine pA_ 6 ?_
      refine PQ.round ((c+1,k.2)) ⟨by simp only;omega,hk2,fun x hx=>by
       obtain⟨j,hj1,hj2⟩:=mem_take hx
       have:=hA.get hj2 hz om_
       omega,hk4⟩ (by simp only;omega) (by repeat(first|exact trivial|refine⟨rfl,?_⟩)) pk_
     ·rw[cmpE_lt] at h103
      refine pA_ 5 ?_
      refine PQ.round ((k.1,c)) ⟨by simp only;omega,by simp only;omega,hk3,fun x hx=>by
       obtain⟨j,hj1,hj2⟩:=mem_drop hx
       have:=hA.get hz hj2 om_
       omega⟩ (by simp only;omega) (by repeat(first|exact trivial|refine⟨rfl,?_⟩)) pk_
    ·refine pA_ 13 ?_
     obtain⟨s,r⟩:=k
     simp only at hk1 hk2 hk3 hk4 h85
     obtain rfl:s=r:=by omega
     rw[show X++(A++([y]++Y))=X++((A.take (A.length)++y::A.drop (A.length))++Y) from by simp]
     refine CW.loop (γ:=Nat) (fun t=>[(0,.slice (some ⟨g,0,none⟩) n cap),(14,.int .i64 ((a+s:Nat):Int)),(17,.int .i64 ((a+t:Nat):Int))]) (fun t=>[[(g,.cells ((X++((A.take (t)++y::A.drop (t))++Y)).flatMap tnC++rest).toArray 268 (0,0))]]) (fun t=>s≤t∧t≤A.length) (fun t=>t-s) (A.length) ⟨hk2,Nat.le_refl _⟩ (by exact⟨rfl,rfl,congrArg (fun z:Int=>some (Value.int .i64 z)) (by first|omega|(simp only;omega)),trivial⟩) pk_ fun t=>?_
     rintro⟨ht1,ht2⟩
     refine pA_ 8 ?_
     refine Cd_ rfl (fun h110=>?_) fun h110=>?_
     ·obtain⟨u,hu⟩:∃u,A[t-1]? =some u:=⟨A[t-1]'om_,by simp⟩
      have hcc:X++((A.take (t)++y::A.drop (t))++Y)=(X++A.take (t-1))++u::([]++y::(A.drop t++Y)):=by
       have e:=take_snoc hu
       rw[show t-1+1=t by omega] at e
       rw[e];simp
      have h1:(X++((A.take (t)++y::A.drop (t))++Y))[a+t]? =some y:=by
       rw[hcc,show(X++A.take (t-1))++u::([]++y::(A.drop t++Y))=(X++A.take (t-1)++[u])++y::(A.drop t++Y) from by simp]
       exact at_app _ _ _ _ (by simp;omega)
      have h2:(X++((A.take (t)++y::A.drop (t))++Y))[a+t-1]? =some u:=by rw[hcc];exact at_app _ _ _ _ (by simp;omega)
      have hsw:((X++((A.take (t)++y::A.drop (t))++Y)).set (a+t) u).set (a+t-1) y=X++((A.take (t-1)++y::A.drop (t-1))++Y):=by
       rw[hcc,swp' _ _ _ _ _ _ _ (by simp;omega) (by simp;omega)]
       have e:=drop_cons hu
       rw[show t-1+1=t by omega] at e
       rw[e];simp
      have hll:(X++((A.take (t)++y::A.drop (t))++Y)).length=n:=by simp at hlen⊢;omega
      refine pA_ 4 ?_
      refine Dr ([])<|pR_ [0,1,2,3,4] ?_
      refine RW.re 117 (.int .i64 ((a+t-1:Nat):Int)) rfl (by congr 1;omega)<|pR_ [5,6,7] ?_
      refine RW.re 120 (.int .i64 ((a+t-1:Nat):Int)) rfl (by congr 1;omega)<|pR_ [8,10,11,12] ?_
      refine RW.any [9,13] kr_ (by simp) fun i hi=>?_
      simp only[List.mem_cons,List.not_mem_nil,or_false] at hi
      rcases hi with rfl|rfl
      ·refine Ro rfl (Eff.ofVal (Val.loadFl (enc:=tnC) rfl Tryz.isAgg268 in_ tnC_len h2 Tryz.sizeOf268)) fun _ _=>Re 13 rfl (Eff.ofVal (Val.loadFl (enc:=tnC) rfl Tryz.isAgg268 in_ tnC_len h1 Tryz.sizeOf268)) fun _ _=>Rv 14 rfl Ix<|ReN 15 rfl (Eff.storeFl (enc:=tnC) (sz:=2) rfl rfl up_ tnC_len (by first|omega|(simp only[List.length_set];omega)) Tryz.sizeOf268 tnC_one) fun _ _=>Rv 16 rfl Ix<|ReN 17 rfl (Eff.storeFl (enc:=tnC) (sz:=2) rfl rfl up_ tnC_len (by first|omega|(simp only[List.length_set];omega)) Tryz.sizeOf268 tnC_one) fun _ _=>Rd<|Bn<|Ps<|Rg<|Lv Mv<|Lv Ar<|LW.re 112 (.int .i64 ((a+(t-1):Nat):Int)) rfl (by congr 1;omega)<|Lv Av<|Nl ?_
       rw[hsw]
       exact roundA (t-1) ⟨by omega,by omega⟩ om_
      ·refine Ro rfl (Eff.ofVal (Val.loadFl (enc:=tnC) rfl Tryz.isAgg268 in_ tnC_len h1 Tryz.sizeOf268)) fun _ _=>Re 9 rfl (Eff.ofVal (Val.loadFl (enc:=tnC) rfl Tryz.isAgg268 in_ tnC_len h2 Tryz.sizeOf268)) fun _ _=>Rv 14 rfl Ix<|ReN 15 rfl (Eff.storeFl (enc:=tnC) (sz:=2) rfl rfl up_ tnC_len (by first|omega|(simp only[List.length_set];omega)) Tryz.sizeOf268 tnC_one) fun _ _=>Rv 16 rfl Ix<|ReN 17 rfl (Eff.storeFl (enc:=tnC) (sz:=2) rfl rfl up_ tnC_len (by first|omega|(simp only[List.length_set];omega)) Tryz.sizeOf268 tnC_one) fun _ _=>Rd<|Bn<|Ps<|Rg<|Lv Mv<|Lv Ar<|LW.re 112 (.int .i64 ((a+(t-1):Nat):Int)) rfl (by congr 1;omega)<|Lv Av<|Nl ?_
       rw[hsw]
       exact roundA (t-1) ⟨by omega,by omega⟩ om_
     ·refine pA_ 7 ?_
      refine PQ.ret0 rfl fun w' hw=>?_
      obtain rfl:t=s:=by omega
      exact⟨A.take t++y::A.drop t,⟨ins_sta A t y hk4,ins_up hA t y (fun z hz=>by have:=hk4 z hz;omega) hk3⟩,rfl,hw⟩
   ·refine pA_ 3 ?_
    obtain⟨mid,hmid⟩:∃mid,mid=(a+b)/2:=⟨_,rfl⟩
    refine pA_ 5 ?_
    refine Lv (Val.shr rfl rfl om_)<|Lv Cv<|LW.re 134 (.int .i64 ((mid:Nat):Int)) rfl (mid_eq a b _ om_ hmid)<|pA_ 4 ?_
    obtain⟨nn,hnn⟩:∃nn,nn=mid+m:=⟨_,rfl⟩
    refine pA_ 4 ?_
    refine LW.re 137 (.int .i64 ((nn:Nat):Int)) rfl (by congr 1;omega)<|pA_ 10 ?_
    refine CW.join (fun k:Nat×Nat=>k.1=(if mid<m then nn-b else a)∧k.2=(if mid<m then mid else m)) (fun k=>[(0,.slice (some ⟨g,0,none⟩) n cap),(1,.int .i64 ((a:Nat):Int)),(2,.int .i64 ((m:Nat):Int)),(3,.int .i64 ((b:Nat):Int)),(4,.func (.func 211) #[] #[]),(18,.int .i64 ((mid:Nat):Int)),(19,.int .i64 ((nn:Nat):Int)),(20,.int .i64 ((k.1:Nat):Int)),(21,.int .i64 ((k.2:Nat):Int))]) (fun _=>[[(g,.cells ((X++(A++(B++Y))).flatMap tnC++rest).toArray 268 (0,0))]]) ?_ ?_
    ·refine pA_ 7 ?_
     refine Cd_ rfl (fun h140=>?_) fun h140=>?_
     ·refine pA_ 5 ?_
      refine LW.re 143 (.int .i64 ((nn-b:Nat):Int)) rfl (by congr 1;omega)<|pA_ 7 ?_
      exact joinC ((nn-b,mid)) (⟨by rw[if_pos om_],by rw[if_pos om_]⟩)
     ·refine pA_ 10 ?_
      exact joinC ((a,m)) (⟨by rw[if_neg om_],by rw[if_neg om_]⟩)
    ·rintro⟨lo,hi⟩ ⟨hlo,hhi⟩
     simp only at hlo hhi
     have hlh:lo≤hi:=by split at hlo<;>split at hhi<;>omega
     refine pA_ 5 ?_
     refine LW.re 148 (.int .i64 ((nn-1:Nat):Int)) rfl (by congr 1;omega)<|pA_ 5 ?_
     refine loopA (γ:=Nat×Nat) (fun k=>[(0,.slice (some ⟨g,0,none⟩) n cap),(1,.int .i64 ((a:Nat):Int)),(2,.int .i64 ((m:Nat):Int)),(3,.int .i64 ((b:Nat):Int)),(4,.func (.func 211) #[] #[]),(18,.int .i64 ((mid:Nat):Int)),(19,.int .i64 ((nn:Nat):Int)),(22,.int .i64 ((nn-1:Nat):Int)),(20,.int .i64 ((k.1:Nat):Int)),(21,.int .i64 ((k.2:Nat):Int))]) (fun _=>[[(g,.cells ((X++(A++(B++Y))).flatMap tnC++rest).toArray 268 (0,0))]]) (fun k=>lo≤k.1∧k.1≤k.2∧k.2≤hi∧(k.1=lo∨∃u v,(X++(A++(B++Y)))[k.1-1]? =some u∧(X++(A++(B++Y)))[nn-k.1]? =some v∧(tnK u)≤(tnK v))∧(k.2=hi∨∃u v,(X++(A++(B++Y)))[k.2]? =some u∧(X++(A++(B++Y)))[nn-1-k.2]? =some v∧(tnK v)<(tnK u))) (fun k=>k.2-k.1) ((lo,hi)) ⟨Nat.le_refl _,by simp only;omega,Nat.le_refl _,.inl rfl,.inl rfl⟩ fun k=>?_
     rintro⟨hk1,hk2,hk3,hk4,hk5⟩
     refine pA_ 8 ?_
     refine Cd_ rfl (fun h151=>?_) fun h151=>?_
     ·obtain⟨c,hc⟩:∃c,c=(k.1+k.2)/2:=⟨_,rfl⟩
      have hcl:a≤c∧c<m∧m≤nn-1-c∧nn-1-c<b:=by split at hlo<;>split at hhi<;>omega
      obtain⟨u,hu⟩:∃u,(X++(A++(B++Y)))[c]? =some u:=⟨_,List.getElem?_eq_getElem (by rw[hn];omega)⟩
      obtain⟨v,hv⟩:∃v,(X++(A++(B++Y)))[nn-1-c]? =some v:=⟨_,List.getElem?_eq_getElem (by rw[hn];omega)⟩
      refine Sk<|Ps<|Bk<|Sq<|Rg<|Lv Mv<|Lv Mv<|Lv Ar<|Lv Cv<|Lv (Val.shr rfl rfl om_)<|Lv Cv<|LW.re 157 (.int .i64 ((c:Nat):Int)) rfl (mid_eq k.1 k.2 _ (by split at hhi<;>omega) hc)<|Lv Av<|Nl<|Ps<|Sq<|Qt<|Qv Mv<|Qv Mv<|Qv Mv<|Qv Mv<|Qv Ar<|QW.re 162 (.int .i64 ((nn-1-c:Nat):Int)) rfl (by congr 1;omega)<|Qv Ix<|Qv (Val.loadFl (enc:=tnC) rfl Tryz.isAgg268 in_ tnC_len hv Tryz.sizeOf268)<|Qv Mv<|Qv Mv<|Qv Ix<|Qv (Val.loadFl (enc:=tnC) rfl Tryz.isAgg268 in_ tnC_len hu Tryz.sizeOf268)<|Qc (Qcall.ofF (f:=211) (caps:=[]) rfl rfl Tryz.call211 (fun w hw=>byTn_c v u w))<|Qv Cm<|Qv Nt<|Ql<|Ps ?_
      refine Cd_ rfl (fun h171=>?_) fun h171=>?_
      ·rw[cmpE_ge] at h171
       refine pA_ 6 ?_
       exact roundA ((c+1,k.2)) ⟨by simp only;omega,by simp only;omega,hk3,.inr ⟨u,v,by simpa using hu,by rw[show nn-(c+1)=nn-1-c by omega];exact hv,by omega⟩,hk5⟩ (by simp only;omega)
      ·rw[cmpE_lt] at h171
       refine pA_ 5 ?_
       exact roundA ((k.1,c)) ⟨hk1,by simp only;omega,by simp only;omega,hk4,.inr ⟨u,v,hu,hv,by omega⟩⟩ (by simp only;omega)
     ·obtain⟨s,r⟩:=k
      simp only at hk1 hk2 hk3 hk4 hk5 h151
      obtain rfl:s=r:=by omega
      obtain⟨A1,A2,B1,B2,rfl,rfl,hs1,he1,hsn,hmd,hx1,hx2⟩:=sym_core (Y:=Y) hA hB ha hmm hb hmid hnn hlo hhi hk1 hk3 hk4 hk5
      refine pA_ 10 ?_
      refine LW.re 177 (.int .i64 ((nn-s:Nat):Int)) rfl (by congr 1;omega)<|pA_ 10 ?_
      refine LW.split (d:=181) rfl (fun h181=>?_) (fun h181=>?_)
      ·replace h181:=bT h181
       refine pA_ 6 ?_
       refine Cd_ rfl (fun h185=>?_) fun h185=>?_
       ·refine pA_ 6 ?_
        refine Le (CM ([[(g,.cells ((X++((A1++A2)++((B1++B2)++Y))).flatMap tnC++rest).toArray 268 (0,0))]]) fun w hw hs=>rot_c g cap n s m (nn-s) rest (X++A1) A2 B1 (B2++Y) (X++((A1++A2)++((B1++B2)++Y))) (X++((A1++B1)++((A2++B2)++Y))) (by simp) (by simp) hn (by simp;omega) (by simp at hmm;omega) om_ (by simp at hmm;omega) om_ hm w hs) fun _ _=>pA_ 9 ?_
        refine LW.split (d:=195) rfl (fun h195=>?_) (fun h195=>?_)
        ·replace h195:=bT h195
         refine pA_ 6 ?_
         refine Cd_ rfl (fun h199=>?_) fun h199=>?_
         ·refine pA_ 6 ?_
          refine Le (CM ([[(g,.cells ((X++((A1++B1)++((A2++B2)++Y))).flatMap tnC++rest).toArray 268 (0,0))]]) fun w hw hs=>ih a s mid X A1 B1 ((A2++B2)++Y) (X++((A1++B1)++((A2++B2)++Y))) (by simp at hN hmm hb;omega) (by simp) (by rw[← hn];simp;omega) ha hs1.symm om_ om_ om_ hA.of_app.1 hB.of_app.1 w hs) fun M1 hM1=>pA_ 8 ?_
          refine LW.split (d:=209) rfl (fun h209=>?_) (fun h209=>?_)
          ·replace h209:=bT h209
           refine pA_ 6 ?_
           refine Cd_ rfl (fun h213=>?_) fun h213=>?_
           ·refine pA_ 6 ?_
            refine Le (CM ([[(g,.cells ((X++(M1++((A2++B2)++Y))).flatMap tnC++rest).toArray 268 (0,0))]]) fun w hw hs=>ih mid (nn-s) b (X++M1) A2 B2 Y (X++(M1++((A2++B2)++Y))) (by simp at hN hmm hb;omega) (by simp) (by rw[← hn];have:=hM1.1.1;simp at this⊢;omega) (by have:=hM1.1.1;simp at this⊢;omega) (by simp at hmm;omega) (by simp at hb;omega) (by simp at hmm;omega) (by simp at hb;omega) hA.of_app.2.1 hB.of_app.2.1 w hs) fun M2 hM2=>Nl<|PQ.end0 rfl fun w' hw=>?_
            rw[show(X++M1)++(M2++Y)=X++((M1++M2)++Y) from by simp] at hw
            exact⟨M1++M2,sym_fin hA hB hx1 hx2 hM1 hM2,rfl,hw⟩
           ·refine Sk<|PQ.end0 rfl fun w' hw=>?_
            have hM2:Sta tnK (A2++B2) (A2++B2)∧Up tnK (A2++B2):=⟨Sta.refl _,by
             have:A2.length=0∨B2.length=0:=by simp at hmm hb;omega
             rcases this with h|h
             ·have:=List.length_eq_zero_iff.1 h;subst this;exact hB.of_app.2.1
             ·have:=List.length_eq_zero_iff.1 h;subst this;rw[List.append_nil];exact hA.of_app.2.1⟩
            rw[show X++(M1++((A2++B2)++Y))=X++((M1++(A2++B2))++Y) from by simp] at hw
            exact⟨M1++(A2++B2),sym_fin hA hB hx1 hx2 hM1 hM2,rfl,hw⟩
          ·replace h209:=bF h209
           refine pA_ 8 ?_
           refine PQ.end0 rfl fun w' hw=>?_
           have hM2:Sta tnK (A2++B2) (A2++B2)∧Up tnK (A2++B2):=⟨Sta.refl _,by
            have:A2.length=0∨B2.length=0:=by simp at hmm hb;omega
            rcases this with h|h
            ·have:=List.length_eq_zero_iff.1 h;subst this;exact hB.of_app.2.1
            ·have:=List.length_eq_zero_iff.1 h;subst this;rw[List.append_nil];exact hA.of_app.2.1⟩
           rw[show X++(M1++((A2++B2)++Y))=X++((M1++(A2++B2))++Y) from by simp] at hw
           exact⟨M1++(A2++B2),sym_fin hA hB hx1 hx2 hM1 hM2,rfl,hw⟩
         ·refine pA_ 3 ?_
          obtain⟨M1,hM1,hE⟩:∃M1,(Sta tnK (A1++B1) M1∧Up tnK M1)∧A1++B1=M1:=⟨_,⟨Sta.refl _,by
           have:A1.length=0∨B1.length=0:=by omega
           rcases this with h|h
           ·have:=List.length_eq_zero_iff.1 h;subst this;exact hB.of_app.1
           ·have:=List.length_eq_zero_iff.1 h;subst this;rw[List.append_nil];exact hA.of_app.1⟩,rfl⟩
          rw[hE]
          refine pA_ 5 ?_
          refine LW.split (d:=209) rfl (fun h209=>?_) (fun h209=>?_)
          ·replace h209:=bT h209
           refine pA_ 6 ?_
           refine Cd_ rfl (fun h213=>?_) fun h213=>?_
           ·refine pA_ 6 ?_
            refine Le (CM ([[(g,.cells ((X++(M1++((A2++B2)++Y))).flatMap tnC++rest).toArray 268 (0,0))]]) fun w hw hs=>ih mid (nn-s) b (X++M1) A2 B2 Y (X++(M1++((A2++B2)++Y))) (by simp at hN hmm hb;omega) (by simp) (by rw[← hn];have:=hM1.1.1;simp at this⊢;omega) (by have:=hM1.1.1;simp at this⊢;omega) (by simp at hmm;omega) (by simp at hb;omega) (by simp at hmm;omega) (by simp at hb;omega) hA.of_app.2.1 hB.of_app.2.1 w hs) fun M2 hM2=>Nl<|PQ.end0 rfl fun w' hw=>?_
            rw[show(X++M1)++(M2++Y)=X++((M1++M2)++Y) from by simp] at hw
            exact⟨M1++M2,sym_fin hA hB hx1 hx2 hM1 hM2,rfl,hw⟩
           ·refine Sk<|PQ.end0 rfl fun w' hw=>?_
            have hM2:Sta tnK (A2++B2) (A2++B2)∧Up tnK (A2++B2):=⟨Sta.refl _,by
             have:A2.length=0∨B2.length=0:=by simp at hmm hb;omega
             rcases this with h|h
             ·have:=List.length_eq_zero_iff.1 h;subst this;exact hB.of_app.2.1
             ·have:=List.length_eq_zero_iff.1 h;subst this;rw[List.append_nil];exact hA.of_app.2.1⟩
            rw[show X++(M1++((A2++B2)++Y))=X++((M1++(A2++B2))++Y) from by simp] at hw
            exact⟨M1++(A2++B2),sym_fin hA hB hx1 hx2 hM1 hM2,rfl,hw⟩
          ·replace h209:=bF h209
           refine pA_ 8 ?_
           refine PQ.end0 rfl fun w' hw=>?_
           have hM2:Sta tnK (A2++B2) (A2++B2)∧Up tnK (A2++B2):=⟨Sta.refl _,by
            have:A2.length=0∨B2.length=0:=by simp at hmm hb;omega
            rcases this with h|h
            ·have:=List.length_eq_zero_iff.1 h;subst this;exact hB.of_app.2.1
            ·have:=List.length_eq_zero_iff.1 h;subst this;rw[List.append_nil];exact hA.of_app.2.1⟩
           rw[show X++(M1++((A2++B2)++Y))=X++((M1++(A2++B2))++Y) from by simp] at hw
           exact⟨M1++(A2++B2),sym_fin hA hB hx1 hx2 hM1 hM2,rfl,hw⟩
        ·replace h195:=bF h195
         refine pA_ 10 ?_
         obtain⟨M1,hM1,hE⟩:∃M1,(Sta tnK (A1++B1) M1∧Up tnK M1)∧A1++B1=M1:=⟨_,⟨Sta.refl _,by
          have:A1.length=0∨B1.length=0:=by omega
          rcases this with h|h
          ·have:=List.length_eq_zero_iff.1 h;subst this;exact hB.of_app.1
          ·have:=List.length_eq_zero_iff.1 h;subst this;rw[List.append_nil];exact hA.of_app.1⟩,rfl⟩
         rw[hE]
         refine pA_ 5 ?_
         refine LW.split (d:=209) rfl (fun h209=>?_) (fun h209=>?_)
         ·replace h209:=bT h209
          refine pA_ 6 ?_
          refine Cd_ rfl (fun h213=>?_) fun h213=>?_
          ·refine pA_ 6 ?_
           refine Le (CM ([[(g,.cells ((X++(M1++((A2++B2)++Y))).flatMap tnC++rest).toArray 268 (0,0))]]) fun w hw hs=>ih mid (nn-s) b (X++M1) A2 B2 Y (X++(M1++((A2++B2)++Y))) (by simp at hN hmm hb;omega) (by simp) (by rw[← hn];have:=hM1.1.1;simp at this⊢;omega) (by have:=hM1.1.1;simp at this⊢;omega) (by simp at hmm;omega) (by simp at hb;omega) (by simp at hmm;omega) (by simp at hb;omega) hA.of_app.2.1 hB.of_app.2.1 w hs) fun M2 hM2=>Nl<|PQ.end0 rfl fun w' hw=>?_
           rw[show(X++M1)++(M2++Y)=X++((M1++M2)++Y) from by simp] at hw
           exact⟨M1++M2,sym_fin hA hB hx1 hx2 hM1 hM2,rfl,hw⟩
          ·refine Sk<|PQ.end0 rfl fun w' hw=>?_
           have hM2:Sta tnK (A2++B2) (A2++B2)∧Up tnK (A2++B2):=⟨Sta.refl _,by
            have:A2.length=0∨B2.length=0:=by simp at hmm hb;omega
            rcases this with h|h
            ·have:=List.length_eq_zero_iff.1 h;subst this;exact hB.of_app.2.1
            ·have:=List.length_eq_zero_iff.1 h;subst this;rw[List.append_nil];exact hA.of_app.2.1⟩
           rw[show X++(M1++((A2++B2)++Y))=X++((M1++(A2++B2))++Y) from by simp] at hw
           exact⟨M1++(A2++B2),sym_fin hA hB hx1 hx2 hM1 hM2,rfl,hw⟩
         ·replace h209:=bF h209
          refine pA_ 8 ?_
          refine PQ.end0 rfl fun w' hw=>?_
          have hM2:Sta tnK (A2++B2) (A2++B2)∧Up tnK (A2++B2):=⟨Sta.refl _,by
           have:A2.length=0∨B2.length=0:=by simp at hmm hb;omega
           rcases this with h|h
           ·have:=List.length_eq_zero_iff.1 h;subst this;exact hB.of_app.2.1
           ·have:=List.length_eq_zero_iff.1 h;subst this;rw[List.append_nil];exact hA.of_app.2.1⟩
          rw[show X++(M1++((A2++B2)++Y))=X++((M1++(A2++B2))++Y) from by simp] at hw
          exact⟨M1++(A2++B2),sym_fin hA hB hx1 hx2 hM1 hM2,rfl,hw⟩
       ·refine pA_ 4 ?_
        have hz:A2=[]∨B1=[]:=by
         have:A2.length=0∨B1.length=0:=by simp at hmm;omega
         rcases this with h|h
         ·exact .inl (List.length_eq_zero_iff.1 h)
         ·exact .inr (List.length_eq_zero_iff.1 h)
        rw[show X++((A1++A2)++((B1++B2)++Y))=X++((A1++B1)++((A2++B2)++Y)) from by rcases hz with rfl|rfl<;>simp]
        refine pA_ 5 ?_
        refine LW.split (d:=195) rfl (fun h195=>?_) (fun h195=>?_)
        ·replace h195:=bT h195
         refine pA_ 6 ?_
         refine Cd_ rfl (fun h199=>?_) fun h199=>?_
         ·refine pA_ 6 ?_
          refine Le (CM ([[(g,.cells ((X++((A1++B1)++((A2++B2)++Y))).flatMap tnC++rest).toArray 268 (0,0))]]) fun w hw hs=>ih a s mid X A1 B1 ((A2++B2)++Y) (X++((A1++B1)++((A2++B2)++Y))) (by simp at hN hmm hb;omega) (by simp) (by rw[← hn];simp;omega) ha hs1.symm om_ om_ om_ hA.of_app.1 hB.of_app.1 w hs) fun M1 hM1=>pA_ 8 ?_
          refine LW.split (d:=209) rfl (fun h209=>?_) (fun h209=>?_)
          ·replace h209:=bT h209
           refine pA_ 6 ?_
           refine Cd_ rfl (fun h213=>?_) fun h213=>?_
           ·refine pA_ 6 ?_
            refine Le (CM ([[(g,.cells ((X++(M1++((A2++B2)++Y))).flatMap tnC++rest).toArray 268 (0,0))]]) fun w hw hs=>ih mid (nn-s) b (X++M1) A2 B2 Y (X++(M1++((A2++B2)++Y))) (by simp at hN hmm hb;omega) (by simp) (by rw[← hn];have:=hM1.1.1;simp at this⊢;omega) (by have:=hM1.1.1;simp at this⊢;omega) (by simp at hmm;omega) (by simp at hb;omega) (by simp at hmm;omega) (by simp at hb;omega) hA.of_app.2.1 hB.of_app.2.1 w hs) fun M2 hM2=>Nl<|PQ.end0 rfl fun w' hw=>?_
            rw[show(X++M1)++(M2++Y)=X++((M1++M2)++Y) from by simp] at hw
            exact⟨M1++M2,sym_fin hA hB hx1 hx2 hM1 hM2,rfl,hw⟩
           ·refine Sk<|PQ.end0 rfl fun w' hw=>?_
            have hM2:Sta tnK (A2++B2) (A2++B2)∧Up tnK (A2++B2):=⟨Sta.refl _,by
             have:A2.length=0∨B2.length=0:=by simp at hmm hb;omega
             rcases this with h|h
             ·have:=List.length_eq_zero_iff.1 h;subst this;exact hB.of_app.2.1
             ·have:=List.length_eq_zero_iff.1 h;subst this;rw[List.append_nil];exact hA.of_app.2.1⟩
            rw[show X++(M1++((A2++B2)++Y))=X++((M1++(A2++B2))++Y) from by simp] at hw
            exact⟨M1++(A2++B2),sym_fin hA hB hx1 hx2 hM1 hM2,rfl,hw⟩
          ·replace h209:=bF h209
           refine pA_ 8 ?_
           refine PQ.end0 rfl fun w' hw=>?_
           have hM2:Sta tnK (A2++B2) (A2++B2)∧Up tnK (A2++B2):=⟨Sta.refl _,by
            have:A2.length=0∨B2.length=0:=by simp at hmm hb;omega
            rcases this with h|h
            ·have:=List.length_eq_zero_iff.1 h;subst this;exact hB.of_app.2.1
            ·have:=List.length_eq_zero_iff.1 h;subst this;rw[List.append_nil];exact hA.of_app.2.1⟩
           rw[show X++(M1++((A2++B2)++Y))=X++((M1++(A2++B2))++Y) from by simp] at hw
           exact⟨M1++(A2++B2),sym_fin hA hB hx1 hx2 hM1 hM2,rfl,hw⟩
         ·refine pA_ 3 ?_
          obtain⟨M1,hM1,hE⟩:∃M1,(Sta tnK (A1++B1) M1∧Up tnK M1)∧A1++B1=M1:=⟨_,⟨Sta.refl _,by
           have:A1.length=0∨B1.length=0:=by omega
           rcases this with h|h
           ·have:=List.length_eq_zero_iff.1 h;subst this;exact hB.of_app.1
           ·have:=List.length_eq_zero_iff.1 h;subst this;rw[List.append_nil];exact hA.of_app.1⟩,rfl⟩
          rw[hE]
          refine pA_ 5 ?_
          refine LW.split (d:=209) rfl (fun h209=>?_) (fun h209=>?_)
          ·replace h209:=bT h209
           refine pA_ 6 ?_
           refine Cd_ rfl (fun h213=>?_) fun h213=>?_
           ·refine pA_ 6 ?_
            refine Le (CM ([[(g,.cells ((X++(M1++((A2++B2)++Y))).flatMap tnC++rest).toArray 268 (0,0))]]) fun w hw hs=>ih mid (nn-s) b (X++M1) A2 B2 Y (X++(M1++((A2++B2)++Y))) (by simp at hN hmm hb;omega) (by simp) (by rw[← hn];have:=hM1.1.1;simp at this⊢;omega) (by have:=hM1.1.1;simp at this⊢;omega) (by simp at hmm;omega) (by simp at hb;omega) (by simp at hmm;omega) (by simp at hb;omega) hA.of_app.2.1 hB.of_app.2.1 w hs) fun M2 hM2=>Nl<|PQ.end0 rfl fun w' hw=>?_
            rw[show(X++M1)++(M2++Y)=X++((M1++M2)++Y) from by simp] at hw
            exact⟨M1++M2,sym_fin hA hB hx1 hx2 hM1 hM2,rfl,hw⟩
           ·refine Sk<|PQ.end0 rfl fun w' hw=>?_
            have hM2:Sta tnK (A2++B2) (A2++B2)∧Up tnK (A2++B2):=⟨Sta.refl _,by
             have:A2.length=0∨B2.length=0:=by simp at hmm hb;omega
             rcases this with h|h
             ·have:=List.length_eq_zero_iff.1 h;subst this;exact hB.of_app.2.1
             ·have:=List.length_eq_zero_iff.1 h;subst this;rw[List.append_nil];exact hA.of_app.2.1⟩
            rw[show X++(M1++((A2++B2)++Y))=X++((M1++(A2++B2))++Y) from by simp] at hw
            exact⟨M1++(A2++B2),sym_fin hA hB hx1 hx2 hM1 hM2,rfl,hw⟩
          ·replace h209:=bF h209
           refine pA_ 8 ?_
           refine PQ.end0 rfl fun w' hw=>?_
           have hM2:Sta tnK (A2++B2) (A2++B2)∧Up tnK (A2++B2):=⟨Sta.refl _,by
            have:A2.length=0∨B2.length=0:=by simp at hmm hb;omega
            rcases this with h|h
            ·have:=List.length_eq_zero_iff.1 h;subst this;exact hB.of_app.2.1
            ·have:=List.length_eq_zero_iff.1 h;subst this;rw[List.append_nil];exact hA.of_app.2.1⟩
           rw[show X++(M1++((A2++B2)++Y))=X++((M1++(A2++B2))++Y) from by simp] at hw
           exact⟨M1++(A2++B2),sym_fin hA hB hx1 hx2 hM1 hM2,rfl,hw⟩
        ·replace h195:=bF h195
         refine pA_ 10 ?_
         obtain⟨M1,hM1,hE⟩:∃M1,(Sta tnK (A1++B1) M1∧Up tnK M1)∧A1++B1=M1:=⟨_,⟨Sta.refl _,by
          have:A1.length=0∨B1.length=0:=by omega
          rcases this with h|h
          ·have:=List.length_eq_zero_iff.1 h;subst this;exact hB.of_app.1
          ·have:=List.length_eq_zero_iff.1 h;subst this;rw[List.append_nil];exact hA.of_app.1⟩,rfl⟩
         rw[hE]
         refine pA_ 5 ?_
         refine LW.split (d:=209) rfl (fun h209=>?_) (fun h209=>?_)
         ·replace h209:=bT h209
          refine pA_ 6 ?_
          refine Cd_ rfl (fun h213=>?_) fun h213=>?_
          ·refine pA_ 6 ?_
           refine Le (CM ([[(g,.cells ((X++(M1++((A2++B2)++Y))).flatMap tnC++rest).toArray 268 (0,0))]]) fun w hw hs=>ih mid (nn-s) b (X++M1) A2 B2 Y (X++(M1++((A2++B2)++Y))) (by simp at hN hmm hb;omega) (by simp) (by rw[← hn];have:=hM1.1.1;simp at this⊢;omega) (by have:=hM1.1.1;simp at this⊢;omega) (by simp at hmm;omega) (by simp at hb;omega) (by simp at hmm;omega) (by simp at hb;omega) hA.of_app.2.1 hB.of_app.2.1 w hs) fun M2 hM2=>Nl<|PQ.end0 rfl fun w' hw=>?_
           rw[show(X++M1)++(M2++Y)=X++((M1++M2)++Y) from by simp] at hw
           exact⟨M1++M2,sym_fin hA hB hx1 hx2 hM1 hM2,rfl,hw⟩
          ·refine Sk<|PQ.end0 rfl fun w' hw=>?_
           have hM2:Sta tnK (A2++B2) (A2++B2)∧Up tnK (A2++B2):=⟨Sta.refl _,by
            have:A2.length=0∨B2.length=0:=by simp at hmm hb;omega
            rcases this with h|h
            ·have:=List.length_eq_zero_iff.1 h;subst this;exact hB.of_app.2.1
            ·have:=List.length_eq_zero_iff.1 h;subst this;rw[List.append_nil];exact hA.of_app.2.1⟩
           rw[show X++(M1++((A2++B2)++Y))=X++((M1++(A2++B2))++Y) from by simp] at hw
           exact⟨M1++(A2++B2),sym_fin hA hB hx1 hx2 hM1 hM2,rfl,hw⟩
         ·replace h209:=bF h209
          refine pA_ 8 ?_
          refine PQ.end0 rfl fun w' hw=>?_
          have hM2:Sta tnK (A2++B2) (A2++B2)∧Up tnK (A2++B2):=⟨Sta.refl _,by
           have:A2.length=0∨B2.length=0:=by simp at hmm hb;omega
           rcases this with h|h
           ·have:=List.length_eq_zero_iff.1 h;subst this;exact hB.of_app.2.1
           ·have:=List.length_eq_zero_iff.1 h;subst this;rw[List.append_nil];exact hA.of_app.2.1⟩
          rw[show X++(M1++((A2++B2)++Y))=X++((M1++(A2++B2))++Y) from by simp] at hw
          exact⟨M1++(A2++B2),sym_fin hA hB hx1 hx2 hM1 hM2,rfl,hw⟩
      ·replace h181:=bF h181
       refine pA_ 11 ?_
       have hz:A2=[]∨B1=[]:=by
        have:A2.length=0∨B1.length=0:=by simp at hmm;omega
        rcases this with h|h
        ·exact .inl (List.length_eq_zero_iff.1 h)
        ·exact .inr (List.length_eq_zero_iff.1 h)
       rw[show X++((A1++A2)++((B1++B2)++Y))=X++((A1++B1)++((A2++B2)++Y)) from by rcases hz with rfl|rfl<;>simp]
       refine pA_ 5 ?_
       refine LW.split (d:=195) rfl (fun h195=>?_) (fun h195=>?_)
       ·replace h195:=bT h195
        refine pA_ 6 ?_
        refine Cd_ rfl (fun h199=>?_) fun h199=>?_
        ·refine pA_ 6 ?_
         refine Le (CM ([[(g,.cells ((X++((A1++B1)++((A2++B2)++Y))).flatMap tnC++rest).toArray 268 (0,0))]]) fun w hw hs=>ih a s mid X A1 B1 ((A2++B2)++Y) (X++((A1++B1)++((A2++B2)++Y))) (by simp at hN hmm hb;omega) (by simp) (by rw[← hn];simp;omega) ha hs1.symm om_ om_ om_ hA.of_app.1 hB.of_app.1 w hs) fun M1 hM1=>pA_ 8 ?_
         refine LW.split (d:=209) rfl (fun h209=>?_) (fun h209=>?_)
         ·replace h209:=bT h209
          refine pA_ 6 ?_
          refine Cd_ rfl (fun h213=>?_) fun h213=>?_
          ·refine pA_ 6 ?_
           refine Le (CM ([[(g,.cells ((X++(M1++((A2++B2)++Y))).flatMap tnC++rest).toArray 268 (0,0))]]) fun w hw hs=>ih mid (nn-s) b (X++M1) A2 B2 Y (X++(M1++((A2++B2)++Y))) (by simp at hN hmm hb;omega) (by simp) (by rw[← hn];have:=hM1.1.1;simp at this⊢;omega) (by have:=hM1.1.1;simp at this⊢;omega) (by simp at hmm;omega) (by simp at hb;omega) (by simp at hmm;omega) (by simp at hb;omega) hA.of_app.2.1 hB.of_app.2.1 w hs) fun M2 hM2=>Nl<|PQ.end0 rfl fun w' hw=>?_
           rw[show(X++M1)++(M2++Y)=X++((M1++M2)++Y) from by simp] at hw
           exact⟨M1++M2,sym_fin hA hB hx1 hx2 hM1 hM2,rfl,hw⟩
          ·refine Sk<|PQ.end0 rfl fun w' hw=>?_
           have hM2:Sta tnK (A2++B2) (A2++B2)∧Up tnK (A2++B2):=⟨Sta.refl _,by
            have:A2.length=0∨B2.length=0:=by simp at hmm hb;omega
            rcases this with h|h
            ·have:=List.length_eq_zero_iff.1 h;subst this;exact hB.of_app.2.1
            ·have:=List.length_eq_zero_iff.1 h;subst this;rw[List.append_nil];exact hA.of_app.2.1⟩
           rw[show X++(M1++((A2++B2)++Y))=X++((M1++(A2++B2))++Y) from by simp] at hw
           exact⟨M1++(A2++B2),sym_fin hA hB hx1 hx2 hM1 hM2,rfl,hw⟩
         ·replace h209:=bF h209
          refine pA_ 8 ?_
          refine PQ.end0 rfl fun w' hw=>?_
          have hM2:Sta tnK (A2++B2) (A2++B2)∧Up tnK (A2++B2):=⟨Sta.refl _,by
           have:A2.length=0∨B2.length=0:=by simp at hmm hb;omega
           rcases this with h|h
           ·have:=List.length_eq_zero_iff.1 h;subst this;exact hB.of_app.2.1
           ·have:=List.length_eq_zero_iff.1 h;subst this;rw[List.append_nil];exact hA.of_app.2.1⟩
          rw[show X++(M1++((A2++B2)++Y))=X++((M1++(A2++B2))++Y) from by simp] at hw
          exact⟨M1++(A2++B2),sym_fin hA hB hx1 hx2 hM1 hM2,rfl,hw⟩
        ·refine pA_ 3 ?_
         obtain⟨M1,hM1,hE⟩:∃M1,(Sta tnK (A1++B1) M1∧Up tnK M1)∧A1++B1=M1:=⟨_,⟨Sta.refl _,by
          have:A1.length=0∨B1.length=0:=by omega
          rcases this with h|h
          ·have:=List.length_eq_zero_iff.1 h;subst this;exact hB.of_app.1
          ·have:=List.length_eq_zero_iff.1 h;subst this;rw[List.append_nil];exact hA.of_app.1⟩,rfl⟩
         rw[hE]
         refine pA_ 5 ?_
         refine LW.split (d:=209) rfl (fun h209=>?_) (fun h209=>?_)
         ·replace h209:=bT h209
          refine pA_ 6 ?_
          refine Cd_ rfl (fun h213=>?_) fun h213=>?_
          ·refine pA_ 6 ?_
           refine Le (CM ([[(g,.cells ((X++(M1++((A2++B2)++Y))).flatMap tnC++rest).toArray 268 (0,0))]]) fun w hw hs=>ih mid (nn-s) b (X++M1) A2 B2 Y (X++(M1++((A2++B2)++Y))) (by simp at hN hmm hb;omega) (by simp) (by rw[← hn];have:=hM1.1.1;simp at this⊢;omega) (by have:=hM1.1.1;simp at this⊢;omega) (by simp at hmm;omega) (by simp at hb;omega) (by simp at hmm;omega) (by simp at hb;omega) hA.of_app.2.1 hB.of_app.2.1 w hs) fun M2 hM2=>Nl<|PQ.end0 rfl fun w' hw=>?_
           rw[show(X++M1)++(M2++Y)=X++((M1++M2)++Y) from by simp] at hw
           exact⟨M1++M2,sym_fin hA hB hx1 hx2 hM1 hM2,rfl,hw⟩
          ·refine Sk<|PQ.end0 rfl fun w' hw=>?_
           have hM2:Sta tnK (A2++B2) (A2++B2)∧Up tnK (A2++B2):=⟨Sta.refl _,by
            have:A2.length=0∨B2.length=0:=by simp at hmm hb;omega
            rcases this with h|h
            ·have:=List.length_eq_zero_iff.1 h;subst this;exact hB.of_app.2.1
            ·have:=List.length_eq_zero_iff.1 h;subst this;rw[List.append_nil];exact hA.of_app.2.1⟩
           rw[show X++(M1++((A2++B2)++Y))=X++((M1++(A2++B2))++Y) from by simp] at hw
           exact⟨M1++(A2++B2),sym_fin hA hB hx1 hx2 hM1 hM2,rfl,hw⟩
         ·replace h209:=bF h209
          refine pA_ 8 ?_
          refine PQ.end0 rfl fun w' hw=>?_
          have hM2:Sta tnK (A2++B2) (A2++B2)∧Up tnK (A2++B2):=⟨Sta.refl _,by
           have:A2.length=0∨B2.length=0:=by simp at hmm hb;omega
           rcases this with h|h
           ·have:=List.length_eq_zero_iff.1 h;subst this;exact hB.of_app.2.1
           ·have:=List.length_eq_zero_iff.1 h;subst this;rw[List.append_nil];exact hA.of_app.2.1⟩
          rw[show X++(M1++((A2++B2)++Y))=X++((M1++(A2++B2))++Y) from by simp] at hw
          exact⟨M1++(A2++B2),sym_fin hA hB hx1 hx2 hM1 hM2,rfl,hw⟩
       ·replace h195:=bF h195
        refine pA_ 10 ?_
        obtain⟨M1,hM1,hE⟩:∃M1,(Sta tnK (A1++B1) M1∧Up tnK M1)∧A1++B1=M1:=⟨_,⟨Sta.refl _,by
         have:A1.length=0∨B1.length=0:=by omega
         rcases this with h|h
         ·have:=List.length_eq_zero_iff.1 h;subst this;exact hB.of_app.1
         ·have:=List.length_eq_zero_iff.1 h;subst this;rw[List.append_nil];exact hA.of_app.1⟩,rfl⟩
        rw[hE]
        refine pA_ 5 ?_
        refine LW.split (d:=209) rfl (fun h209=>?_) (fun h209=>?_)
        ·replace h209:=bT h209
         refine pA_ 6 ?_
         refine Cd_ rfl (fun h213=>?_) fun h213=>?_
         ·refine pA_ 6 ?_
          refine Le (CM ([[(g,.cells ((X++(M1++((A2++B2)++Y))).flatMap tnC++rest).toArray 268 (0,0))]]) fun w hw hs=>ih mid (nn-s) b (X++M1) A2 B2 Y (X++(M1++((A2++B2)++Y))) (by simp at hN hmm hb;omega) (by simp) (by rw[← hn];have:=hM1.1.1;simp at this⊢;omega) (by have:=hM1.1.1;simp at this⊢;omega) (by simp at hmm;omega) (by simp at hb;omega) (by simp at hmm;omega) (by simp at hb;omega) hA.of_app.2.1 hB.of_app.2.1 w hs) fun M2 hM2=>Nl<|PQ.end0 rfl fun w' hw=>?_
          rw[show(X++M1)++(M2++Y)=X++((M1++M2)++Y) from by simp] at hw
          exact⟨M1++M2,sym_fin hA hB hx1 hx2 hM1 hM2,rfl,hw⟩
         ·refine Sk<|PQ.end0 rfl fun w' hw=>?_
          have hM2:Sta tnK (A2++B2) (A2++B2)∧Up tnK (A2++B2):=⟨Sta.refl _,by
           have:A2.length=0∨B2.length=0:=by simp at hmm hb;omega
           rcases this with h|h
           ·have:=List.length_eq_zero_iff.1 h;subst this;exact hB.of_app.2.1
           ·have:=List.length_eq_zero_iff.1 h;subst this;rw[List.append_nil];exact hA.of_app.2.1⟩
          rw[show X++(M1++((A2++B2)++Y))=X++((M1++(A2++B2))++Y) from by simp] at hw
          exact⟨M1++(A2++B2),sym_fin hA hB hx1 hx2 hM1 hM2,rfl,hw⟩
        ·replace h209:=bF h209
         refine pA_ 8 ?_
         refine PQ.end0 rfl fun w' hw=>?_
         have hM2:Sta tnK (A2++B2) (A2++B2)∧Up tnK (A2++B2):=⟨Sta.refl _,by
          have:A2.length=0∨B2.length=0:=by simp at hmm hb;omega
          rcases this with h|h
          ·have:=List.length_eq_zero_iff.1 h;subst this;exact hB.of_app.2.1
          ·have:=List.length_eq_zero_iff.1 h;subst this;rw[List.append_nil];exact hA.of_app.2.1⟩
         rw[show X++(M1++((A2++B2)++Y))=X++((M1++(A2++B2))++Y) from by simp] at hw
         exact⟨M1++(A2++B2),sym_fin hA hB hx1 hx2 hM1 hM2,rfl,hw⟩
end Stt
end
end G
end Go.Proofs.YteejleakfbnpcaaGreat
namespace Go.Proofs.YteejleakfbnpcaaGreat
open Go Go.RowKit V
set_option linter.unusedVariables false
set_option maxRecDepth 100000
set_option maxHeartbeats 1000000
namespace G
section
attribute [local irreducible] V.CW V.LW V.QW V.RW V.PQ V.Val V.Eff V.Qcall
open V (str byC ownV ownG ownS ownOk)
instance:Cal Tryz.prog 242:=⟨Tryz.call242⟩
instance:Cal Tryz.prog 265:=⟨Tryz.call265⟩
namespace Stt
open Stb
theorem insN_c (a b:Int)(hab:b≤a+1)(h0:0≤a∧a≤100000):Rz Tryz.prog 265 [.slice none 0 0,.int .i64 a,.int .i64 b,.func (.func 211) #[] #[]] (.tuple #[]):=by
 intro w
 refine Cb_ Tryz.func265 rfl Tryz.ntmps265<|pA_ 8 ?_
 refine loopA (γ:=Nat) (fun k=>[(2,.int .i64 b),(8,.int .i64 (a+1))]) (fun _=>[]) (fun k=>k=0) (fun k=>0) (0) rfl fun k hJ=>pA_ 8 ?_
 refine CW.cond rfl (fun h14=>?_) (fun h14=>?_)
 ·exact absurd (bT h14) om_
 ·replace h14:=bF h14
  refine pA_ 4 ?_
  refine PQ.end0 rfl ?_
  intro w hw;exact⟨rfl,hw.below⟩
theorem stableN_c:Rz Tryz.prog 242 [.slice none 0 0,.int .i64 (0:Nat),.func (.func 211) #[] #[]] (.tuple #[]):=by
 intro w
 refine Cb_ Tryz.func242 rfl Tryz.ntmps242<|pA_ 14 ?_
 refine loopA (γ:=Nat) (fun k=>[(0,.slice none 0 0),(1,.int .i64 (0:Nat)),(2,.func (.func 211) #[] #[]),(6,.int .i64 20),(7,.int .i64 0),(8,.int .i64 20)]) (fun _=>[]) (fun k=>k=0) (fun k=>0) (0) rfl fun k hJ=>pA_ 8 ?_
 refine CW.cond rfl (fun h13=>?_) (fun h13=>?_)
 ·exact absurd (bT h13) om_
 ·replace h13:=bF h13
  refine pA_ 11 ?_
  refine Le (Cz_ (insN_c 0 (0:Nat) om_ om_)) fun _ _=>pA_ 3 ?_
  refine loopA (γ:=Nat) (fun k=>[(1,.int .i64 (0:Nat)),(6,.int .i64 20)]) (fun _=>[]) (fun k=>k=0) (fun k=>0) (0) rfl fun k hJ=>pA_ 8 ?_
  refine CW.cond rfl (fun h30=>?_) (fun h30=>?_)
  ·exact absurd (bT h30) om_
  ·replace h30:=bF h30
   refine pA_ 4 ?_
   refine PQ.end0 rfl ?_
   intro w hw;exact⟨rfl,hw.below⟩
theorem stable_c (g cap n:Nat)(rest:List Value)(L:List Tkn)(hn:L.length=n)(hm:n≤100000)(w:World)(hs:Sat [[(g,.cells ((L).flatMap tnC++rest).toArray 268 (0,0))]] w):Calls Tryz.prog 242 [.slice (some ⟨g,0,none⟩) n cap,.int .i64 ((n:Nat):Int),.func (.func 211) #[] #[]].toArray w fun e w'=>∃L':List Tkn,(Sta tnK L L'∧Up tnK L')∧e= .returned (.tuple #[])∧Hp ⟨w,[g]⟩ [[(g,.cells ((L').flatMap tnC++rest).toArray 268 (0,0))]] w':=by
 refine Cs_ [[(g,.cells ((L).flatMap tnC++rest).toArray 268 (0,0))]] Tryz.func242 rfl Tryz.ntmps242 hs<|pA_ 14 ?_
 rw[show L=([]:List (List Tkn)).flatten++L from by simp]
 refine loopA (γ:=List (List Tkn)×List Tkn) (fun k=>[(0,.slice (some ⟨g,0,none⟩) n cap),(1,.int .i64 ((n:Nat):Int)),(2,.func (.func 211) #[] #[]),(6,.int .i64 20),(7,.int .i64 ((k.1.flatten.length:Nat):Int)),(8,.int .i64 ((k.1.flatten.length+20:Nat):Int))]) (fun k=>[[(g,.cells ((k.1.flatten++k.2).flatMap tnC++rest).toArray 268 (0,0))]]) (fun k=>Sta tnK L (k.1.flatten++k.2)∧(∀c∈k.1,Up tnK c∧c.length=20)) (fun k=>n-k.1.flatten.length) (([],L)) ⟨by simpa using Sta.refl L,by simp⟩ fun k=>?_
 rintro⟨hk1,hk2⟩
 have hkl:k.1.flatten.length+k.2.length=n:=by have:=hk1.1;rw[List.length_append] at this;omega
 refine pA_ 8 ?_
 refine Cd_ rfl (fun h13=>?_) fun h13=>?_
 ·refine pA_ 4 ?_
  rw[show k.1.flatten++k.2=k.1.flatten++(k.2.take 20++k.2.drop 20) from by rw[List.take_append_drop]]
  refine pA_ 5 ?_
  refine Le (CM ([[(g,.cells ((k.1.flatten++(k.2.take 20++k.2.drop 20)).flatMap tnC++rest).toArray 268 (0,0))]]) fun w hw hs=>ins_c g cap n k.1.flatten.length (k.1.flatten.length+20) rest k.1.flatten (k.2.take 20) (k.2.drop 20) (by rw[List.take_append_drop,List.length_append];omega) rfl (by rw[List.length_take];omega) hm w hs) fun M' hM=>pA_ 12 ?_
  refine LW.re 22 (.int .i64 ((k.1.flatten.length+20+20:Nat):Int)) rfl (by congr 1)<|pA_ 3 ?_
  have hMl:M'.length=20:=by rw[hM.1.1,List.length_take];omega
  have hE:k.1.flatten++(M'++k.2.drop 20)=(k.1++[M']).flatten++k.2.drop 20:=by simp
  rw[hE]
  refine PQ.round ((k.1++[M'],k.2.drop 20)) ⟨by rw[← hE];exact hk1.trans (by rw[show k.1.flatten++k.2=k.1.flatten++(k.2.take 20++k.2.drop 20) from by rw[List.take_append_drop]];exact(Sta.refl _).app (hM.1.app (Sta.refl _))),fun c hc=>by
   rcases List.mem_append.1 hc with hc|hc
   ·exact hk2 c hc
   ·rw[List.mem_singleton] at hc;subst hc;exact⟨hM.2,hMl⟩⟩ (by simp only[List.flatten_append,List.length_append,List.flatten_cons,List.flatten_nil,List.length_nil];omega) (by exact⟨rfl,rfl,rfl,rfl,congrArg (fun z:Int=>some (Value.int .i64 z)) (by simp only[List.flatten_append,List.length_append,List.flatten_cons,List.flatten_nil,List.length_nil];omega),congrArg (fun z:Int=>some (Value.int .i64 z)) (by simp only[List.flatten_append,List.length_append,List.flatten_cons,List.flatten_nil,List.length_nil];omega),trivial⟩) pk_
 ·refine pA_ 6 ?_
  rw[show k.1.flatten++k.2=k.1.flatten++(k.2++[]) from by simp]
  refine pA_ 5 ?_
  refine Le (CM ([[(g,.cells ((k.1.flatten++(k.2++[])).flatMap tnC++rest).toArray 268 (0,0))]]) fun w hw hs=>ins_c g cap n k.1.flatten.length n rest k.1.flatten k.2 [] (by simp only[List.length_append,List.length_nil];omega) rfl om_ hm w hs) fun M' hM=>pA_ 3 ?_
  refine loopA (γ:=Nat×List Tkn) (fun k=>[(0,.slice (some ⟨g,0,none⟩) n cap),(1,.int .i64 ((n:Nat):Int)),(2,.func (.func 211) #[] #[]),(6,.int .i64 ((k.1:Nat):Int))]) (fun k=>[[(g,.cells ((k.2).flatMap tnC++rest).toArray 268 (0,0))]]) (fun k=>Sta tnK L k.2∧Bl tnK k.1 k.2∧20≤k.1∧k.1≤2*n+40) (fun k=>n-k.1) ((20,k.1.flatten++(M'++[]))) ⟨hk1.trans ((Sta.refl _).app (by rw[List.append_nil];exact hM.1)),⟨k.1,M',by simp,hk2,hM.2,by rw[hM.1.1];omega⟩,Nat.le_refl _,by simp only;omega⟩ fun k=>?_
  rintro⟨hS,hBl,hz1,hz2⟩
  have hkl:k.2.length=n:=by rw[hS.1,hn]
  refine pA_ 8 ?_
  refine Cd_ rfl (fun h30=>?_) fun h30=>?_
  ·refine pA_ 7 ?_
   refine LW.re 32 (.int .i64 ((2*k.1:Nat):Int)) rfl (by congr 1)<|pA_ 6 ?_
   obtain⟨cs0,tl,hcs0,hc0,htl1,htl2⟩:=hBl
   rw[show k.2=([]:List (List Tkn)).flatten++(cs0.flatten++tl) from by rw[hcs0];simp]
   refine CW.loop (γ:=List (List Tkn)×List (List Tkn)) (fun e=>[(0,.slice (some ⟨g,0,none⟩) n cap),(1,.int .i64 ((n:Nat):Int)),(2,.func (.func 211) #[] #[]),(6,.int .i64 ((k.1:Nat):Int)),(7,.int .i64 ((e.1.flatten.length:Nat):Int)),(8,.int .i64 ((e.1.flatten.length+2*k.1:Nat):Int))]) (fun e=>[[(g,.cells ((e.1.flatten++(e.2.flatten++tl)).flatMap tnC++rest).toArray 268 (0,0))]]) (fun e=>Sta tnK L (e.1.flatten++(e.2.flatten++tl))∧(∀c∈e.1,Up tnK c∧c.length=2*k.1)∧(∀c∈e.2,Up tnK c∧c.length=k.1)) (fun e=>e.2.length) (([],cs0)) ⟨by rw[hcs0] at hS;simpa using hS,by simp,hc0⟩ (by exact⟨rfl,rfl,rfl,rfl,rfl,congrArg (fun z:Int=>some (Value.int .i64 z)) (by simp),trivial⟩) pk_ fun e=>?_
   rintro⟨he1,he2,he3⟩
   have hEl:e.1.flatten.length+(e.2.flatten.length+tl.length)=n:=by have:=he1.1;simp only[List.length_append] at this;omega
   refine pA_ 8 ?_
   refine Cd_ rfl (fun h35=>?_) fun h35=>?_
   ·obtain⟨c1,c2,cs',hcs⟩:∃c1 c2 cs',e.2=c1::c2::cs':=by
     match hE:e.2,he3 with
     |[],_=>rw[hE] at hEl;simp[-List.length_flatten] at hEl;omega
     |[c],he3=>have:=(he3 c (by simp)).2;rw[hE] at hEl;simp[-List.length_flatten] at hEl;omega
     |c1::c2::cs',_=>exact⟨c1,c2,cs',rfl⟩
    obtain⟨hU1,hl1⟩:=he3 c1 (by rw[hcs];simp)
    obtain⟨hU2,hl2⟩:=he3 c2 (by rw[hcs];simp)
    refine pA_ 4 ?_
    rw[show e.1.flatten++(e.2.flatten++tl)=e.1.flatten++(c1++(c2++(cs'.flatten++tl))) from by rw[hcs];simp]
    refine pA_ 6 ?_
    refine LW.re 40 (.int .i64 ((e.1.flatten.length+k.1:Nat):Int)) rfl (by congr 1)<|Lv Mv<|Lv Mv<|Le (CM ([[(g,.cells ((e.1.flatten++(c1++(c2++(cs'.flatten++tl)))).flatMap tnC++rest).toArray 268 (0,0))]]) fun w hw hs=>sym_c g cap n rest hm (c1.length+c2.length) e.1.flatten.length (e.1.flatten.length+k.1) (e.1.flatten.length+2*k.1) e.1.flatten c1 c2 (cs'.flatten++tl) _ (Nat.le_refl _) rfl (by rw[hcs] at hEl;simp only[List.length_append,List.flatten_cons] at hEl⊢;omega) rfl om_ om_ om_ om_ hU1 hU2 w hs) fun M' hM=>pA_ 12 ?_
    refine LW.re 47 (.int .i64 ((2*k.1:Nat):Int)) rfl (by congr 1)<|Lv Ar<|LW.re 48 (.int .i64 ((e.1.flatten.length+2*k.1+2*k.1:Nat):Int)) rfl (by congr 1)<|pA_ 3 ?_
    have hMl:M'.length=2*k.1:=by rw[hM.1.1,List.length_append];omega
    have hE:e.1.flatten++(M'++(cs'.flatten++tl))=(e.1++[M']).flatten++(cs'.flatten++tl):=by simp
    rw[hE]
    refine PQ.round ((e.1++[M'],cs')) ⟨by rw[← hE];exact he1.trans (by rw[show e.1.flatten++(e.2.flatten++tl)=e.1.flatten++(c1++(c2++(cs'.flatten++tl))) from by rw[hcs];simp];rw[show e.1.flatten++(c1++(c2++(cs'.flatten++tl)))=e.1.flatten++((c1++c2)++(cs'.flatten++tl)) from by simp];exact(Sta.refl _).app (hM.1.app (Sta.refl _))),fun c hc=>by
     rcases List.mem_append.1 hc with hc|hc
     ·exact he2 c hc
     ·rw[List.mem_singleton] at hc;subst hc;exact⟨hM.2,hMl⟩,fun c hc=>he3 c (by rw[hcs];simp[hc])⟩ (by simp only[hcs,List.length_cons];omega) (by exact⟨rfl,rfl,rfl,rfl,congrArg (fun z:Int=>some (Value.int .i64 z)) (by simp only[List.flatten_append,List.length_append,List.flatten_cons,List.flatten_nil,List.length_nil];omega),congrArg (fun z:Int=>some (Value.int .i64 z)) (by simp only[List.flatten_append,List.length_append,List.flatten_cons,List.flatten_nil,List.length_nil];omega),trivial⟩) pk_
   ·refine pA_ 11 ?_
    refine LW.re 51 (.int .i64 ((e.1.flatten.length+k.1:Nat):Int)) rfl (by congr 1)<|pA_ 10 ?_
    refine Cd_ rfl (fun h54=>?_) fun h54=>?_
    ·obtain⟨c1,hcs⟩:∃c1,e.2=[c1]:=by
      match hE:e.2,he3 with
      |[],_=>rw[hE] at hEl;simp[-List.length_flatten] at hEl;omega
      |[c],_=>exact⟨c,rfl⟩
      |c1::c2::cs',he3=>have h1:=(he3 c1 (by simp)).2;have h2:=(he3 c2 (by simp)).2;rw[hE] at hEl;simp[-List.length_flatten] at hEl;omega
     obtain⟨hU1,hl1⟩:=he3 c1 (by rw[hcs];simp)
     have hEl2:e.1.flatten.length+(c1.length+tl.length)=n:=by rw[hcs] at hEl;simpa[-List.length_flatten] using hEl
     rw[show e.1.flatten++(e.2.flatten++tl)=e.1.flatten++(c1++(tl++[])) from by rw[hcs];simp]
     refine pA_ 6 ?_
     refine Le (CM ([[(g,.cells ((e.1.flatten++(c1++(tl++[]))).flatMap tnC++rest).toArray 268 (0,0))]]) fun w hw hs=>sym_c g cap n rest hm (c1.length+tl.length) e.1.flatten.length (e.1.flatten.length+k.1) n e.1.flatten c1 tl [] _ (Nat.le_refl _) rfl (by simp only[List.length_append,List.length_nil];omega) rfl om_ om_ om_ om_ hU1 htl1 w hs) fun M' hM=>pA_ 8 ?_
     have hMl:M'.length<2*k.1:=by
      have h1:=hM.1.1
      have h2:=(he3 c1 (by rw[hcs];simp)).2
      simp at h1;omega
     have hSt:Sta tnK L (e.1.flatten++(M'++[])):=by
      refine he1.trans ?_
      rw[hcs];simp only[List.flatten_cons,List.flatten_nil,List.append_nil]
      exact(Sta.refl _).app hM.1
     refine PQ.round ((2*k.1,e.1.flatten++(M'++[]))) ⟨hSt,⟨e.1,M',by simp,he2,hM.2,hMl⟩,by simp only;omega,by simp only;omega⟩ (by simp only;omega) (by exact⟨rfl,rfl,rfl,congrArg (fun z:Int=>some (Value.int .i64 z)) (by simp only;omega),trivial⟩) pk_
    ·refine pA_ 8 ?_
     have hUt:Up tnK (e.2.flatten++tl)∧(e.2.flatten++tl).length<2*k.1:=by
      match hE:e.2,he3 with
      |[],_=>exact⟨by simpa using htl1,by simp;omega⟩
      |[c1],he3=>
       have h1:=he3 c1 (by simp)
       have h2:tl=[]:=List.length_eq_zero_iff.1 (by rw[hE] at hEl;simp[-List.length_flatten] at hEl;omega)
       subst h2
       exact⟨by simpa using h1.1,by simp;omega⟩
      |c1::c2::cs',he3=>
       have h1:=he3 c1 (by simp)
       have h2:=he3 c2 (by simp)
       rw[hE] at hEl;simp[-List.length_flatten] at hEl;omega
     refine PQ.round ((2*k.1,e.1.flatten++(e.2.flatten++tl))) ⟨he1,⟨e.1,e.2.flatten++tl,by simp,he2,hUt.1,hUt.2⟩,by simp only;omega,by simp only;omega⟩ (by simp only;omega) (by exact⟨rfl,rfl,rfl,congrArg (fun z:Int=>some (Value.int .i64 z)) (by simp only;omega),trivial⟩) pk_
  ·refine pA_ 4 ?_
   refine PQ.end0 rfl ?_
   intro w' hw;exact⟨k.2,⟨hS,hBl.whole om_ om_⟩,rfl,hw⟩
theorem sortStable_c (o:V.OwnO)(L:List Tkn)(hok:ownOk 2 L.length (L.flatMap tnC) o)(hm:L.length≤100000):Mo Tryz.prog 210 [ownV L.length o,.func (.func 211) #[] #[]] [ownG 268 (L.flatMap tnC) o] (fun L':List Tkn=>Sta tnK L L'∧Up tnK L') (fun _=> .tuple #[]) (fun L'=>[ownG 268 (L'.flatMap tnC) o]):=by
 intro w hs
 rcases o with _|⟨g,rest,cap⟩
 ·have h0:L.length=0:=hok.2
  obtain rfl:L=[]:=List.length_eq_zero_iff.1 h0
  refine Cb_ Tryz.func210 rfl Tryz.ntmps210<|pA_ 5 ?_
  refine Le (Cz_ stableN_c) fun _ _=>Nl<|PQ.end0 rfl ?_
  intro w' hw;exact⟨[],⟨Sta.refl _,up_nil⟩,rfl,hw.perm (.refl _)⟩
 ·refine Cs_ [[(g,.cells ((L).flatMap tnC++rest).toArray 268 (0,0))]] Tryz.func210 rfl Tryz.ntmps210 hs<|pA_ 5 ?_
  refine Le (CM ([[(g,.cells ((L).flatMap tnC++rest).toArray 268 (0,0))]]) fun w hw hs=>stable_c g cap L.length rest L rfl hm w hs) fun L' hL=>Nl<|PQ.end0 rfl ?_
  intro w' hw;exact⟨L',hL,rfl,hw⟩
end Stt
end
end G
end Go.Proofs.YteejleakfbnpcaaGreat
namespace Go.Proofs.YteejleakfbnpcaaGreat
open Go Go.RowKit V
set_option linter.unusedVariables false
set_option maxRecDepth 100000
set_option maxHeartbeats 400000
namespace G
section
attribute [local irreducible] V.CW V.LW V.QW V.RW V.PQ V.Val V.Eff V.Qcall
open V (str byC ownV ownG ownS ownOk)
theorem places183:∀w,((Array.mapM (fun(f:Field)=>do pure (f.offset,← sizeOf f.type)) (Tryz.prog.fieldsOf 183):Sem (Array (Nat×Nat)))).run Tryz.prog w= .ok [(0,1),(1,1),(2,1),(3,1),(4,1)].toArray w:=by
 intro w;kernel_rfl
instance:Und Tryz.prog 183 (dOf Tryz.underlying183):=⟨Tryz.underlying183⟩
instance:Siz Tryz.prog 183 (kOf Tryz.sizeOf183):=⟨Tryz.sizeOf183⟩
instance:AgT Tryz.prog 183:=⟨Tryz.isAgg183⟩
instance:Zer Tryz.prog 183 (zOf Tryz.zeroValue183):=⟨Tryz.zeroValue183⟩
instance:Plc Tryz.prog 183 (fOf Tryz.underlying183) (lOf (P:=Tryz.prog) places183):=⟨places183,Tryz.underlying183⟩
instance:Cal Tryz.prog 114:=⟨Tryz.call114⟩
instance:Cal Tryz.prog 115:=⟨Tryz.call115⟩
instance:Cal Tryz.prog 171:=⟨Tryz.call171⟩
instance:Cal Tryz.prog 172:=⟨Tryz.call172⟩
instance:Cal Tryz.prog 173:=⟨Tryz.call173⟩
instance:Cal Tryz.prog 209:=⟨Tryz.call209⟩
instance:Cal Tryz.prog 210:=⟨Tryz.call210⟩
theorem tn_one (l:List Tkn):(l.flatMap tnC).all (·.oneCell')=true:=by
 induction l with
 |nil=>rfl
 |cons f r ih=>rw[List.flatMap_cons,List.all_append,ih];rfl
theorem hp_new {ss so:V.Sg}{w w':World}(hs:Sat ss w)(h:Hp ⟨w,V.ids ss⟩ (so++ss) w'):Hp ⟨w,[]⟩ so w':=by
 have hf:=h.nd
 rw[List.flatten_append,List.map_append] at hf
 have hp:=List.nodup_append.1 hf
 refine⟨h.os,h.tape,h.output,h.size,fun b hb _=>?_,fun p h8=>h.own p (by rw[List.flatten_append];exact List.mem_append_left _ h8),fun p h8=>?_,hp.1⟩
 ·by_cases hm:b∈V.ids ss
  ·obtain⟨p,hq,rfl⟩:=List.mem_map.1 hm
   rw[h.own p (by rw[List.flatten_append];exact List.mem_append_right _ hq),hs.own p hq]
  ·exact h.old b hb hm
 ·rcases h.lo p (by rw[List.flatten_append];exact List.mem_append_left _ h8) with h9|h9
  ·exact .inl h9
  ·exact absurd rfl (hp.2.2 _ (List.mem_map_of_mem h8) _ h9)
theorem own_some3 {sz n:Nat}{xs:List Value}{o:V.OwnO}(h:ownOk sz n xs o)(hn:0<n):∃g rest cap,o=some (g,rest,cap)∧xs.length+rest.length=cap*sz:=by
 rcases o with _|⟨g,rest,cap⟩
 ·exact absurd h.2 om_
 ·exact⟨g,rest,cap,rfl,h.2⟩
def tn0:Tkn:=⟨0,0,by omega⟩
theorem cloneTn_c (l:List Tkn)(p:Option Addr)(c:Nat)(hl:l.length≤100000)(w:World)(h:V.slAt w p 2 tnC l):Calls Tryz.prog 209 [.slice p l.length c].toArray w fun e w'=>∃o:V.OwnO,ownOk 2 l.length (l.flatMap tnC) o∧e= .returned (ownV l.length o)∧Hp ⟨w,[]⟩ [ownG 268 (l.flatMap tnC) o] w':=by
 haveI:Inhabited Tkn:=⟨tn0⟩
 refine Cb_ Tryz.func209 rfl Tryz.ntmps209<|pA_ 9 ?_
 refine Lv (Val.eqSlNil rfl rfl Tryz.underlying181)<|Nl<|Ps ?_
 refine Cd_ rfl (fun h4=>?_) fun h4=>?_
 ·have hpn:p=none:=by cases p with|none=>rfl|some q=>simp at h4
  obtain rfl:l=[]:=by
   rcases h with h|⟨b,o,h,_⟩
   ·exact h
   ·rw[hpn] at h;cases h
  refine pA_ 8 ?_
  intro w' hw;exact⟨none,⟨rfl,rfl⟩,rfl,hw.perm (.refl _)⟩
 ·refine pA_ 4 ?_
  refine Le (Eff.buildSlice0 Tryz.underlying181 Tryz.sizeOf268) fun b5 _=>Lv Mv<|Le (Eff.appendAny (l.flatMap tnC) (sz:=2) (bytes:=16) (z:= .agg #[.int .i64 0,.int .i64 0]) (xs:=[]) (m0:=0) (o:=some (b5,[],0)) (m:=l.length) (pk:=[ownG 268 [] (some (b5,[],0))]) rfl rfl Tryz.underlying181 kr_ rfl om_ pk_ (by simp) ⟨rfl,rfl⟩ (V.flatMap_len tnC_len _) (fun hm0=>by obtain⟨b8,o8,h8,h9⟩:=sl_range (F:=[]) tnC_len h hm0 (by simp);exact⟨b8,o8,h8,fun w1 hw1=>h9 w1 hw1⟩) (tn_one l) om_ om_) fun o2 ho2=>?_
  have h2:ownOk 2 l.length (l.flatMap tnC) o2:=by simpa using ho2
  rw[List.nil_append,Nat.zero_add]
  refine pA_ 5 ?_
  exact fi_ o2 h2
theorem rising_g (L:List Tkn)(p:Option Addr)(c:Nat)(hl:L.length≤100000)(w:World)(h:V.slAt w p 2 tnC L):Calls Tryz.prog 173 [.slice p L.length c].toArray w fun e w'=>∃z:List Tkn×V.OwnO,(Stb.Sta tnK L z.1∧Stb.Up tnK z.1∧ownOk 2 z.1.length (z.1.flatMap tnC) z.2)∧e= .returned (ownV z.1.length z.2)∧Hp ⟨w,[]⟩ [ownG 268 (z.1.flatMap tnC) z.2] w':=by
 refine Cb_ Tryz.func173 rfl Tryz.ntmps173<|pA_ 8 ?_
 refine Le (CM [] fun w hw hs0=>cloneTn_c L p c hl w (hw.slAt h (by simp[ids]))) fun o ho=>pA_ 6 ?_
 refine Le (CM ([ownG 268 (L.flatMap tnC) o]) fun w hw hs0=>Stt.sortStable_c o L ho hl w hs0) fun L' hL'=>?_
 have hlen:L'.length=L.length:=hL'.1.1
 refine pA_ 10 ?_
 intro w' hw;refine⟨(L',o),⟨hL'.1,hL'.2,?_⟩,by rw[hlen],hw.pick pk_⟩
 have h8:=ho.2
 refine⟨V.flatMap_len tnC_len _,?_⟩
 simp only[V.flatMap_len tnC_len,hlen] at h8⊢
 exact h8
theorem cw_segs {P:Program}{n:Nat}{B:V.Base}{Q:Exit→Act→World→Prop}{c:Code}{ks:V.Ks}{ss sg r:V.Sg}(h:V.CW P n B Q c ks ss)(hp:Pick ss sg r):V.CW P n B Q c ks sg:=V.CW.pick h hp
def tkOf (l c:Int):Tkn:=if h: -1000000≤c∧c≤1000000 then⟨l,c,h⟩ else⟨l,0,by omega⟩
theorem tkOf_C {l c:Int}(h: -1000000≤c∧c≤1000000):tnC (tkOf l c)=[.int .i64 l,.int .i64 c]:=by unfold tkOf;rw[dif_pos h];rfl
def lkT (l:Lk):Tkn:=tkOf l.line l.cls
def enT (e:Ent):Tkn:=tkOf e.line e.cls
def anT (e:Ent):Tkn:=tkOf e.anti 0
def anQ (e:Ent):Bool:= !decide (e.anti= -1)
theorem own_srcG {α:Type}{enc:α→List Value}{sz e:Nat}(hk:∀x,(enc x).length=sz)(hz:0<sz){l:List α}{o:V.OwnO}(h:ownOk sz l.length (l.flatMap enc) o):∃p c,ownV l.length o= .slice p l.length c∧(0<l.length→∃b,p=some ⟨b,0,none⟩∧∀{B:V.Base} {sg r:V.Sg} {w:World},Hp B sg w→Pick [ownG e (l.flatMap enc) o] sg r→w.rangeAt b 0 (l.flatMap enc)):=by
 rcases o with _|⟨gb,rest,cap⟩
 ·have h8:l.length=0:=h.2
  exact⟨none,0,by rw[h8];rfl,fun h9=>absurd h9 om_⟩
 ·exact⟨some ⟨gb,0,none⟩,cap,rfl,fun _=>⟨gb,rfl,fun hw hp=>V.range_of_block (o:=0) (cs:=l.flatMap enc) (r:=rest) ((hw.pick hp).own _ (show InS (gb,.cells (l.flatMap enc++rest).toArray e (0,0)) _ from .here).mem) rfl⟩⟩
structure RmO where
 A:List Lk
 L1:List Tkn
 L2:List Tkn
 L3:List Tkn
 L4:List Tkn
 o0:V.OwnO
 o1:V.OwnO
 o2:V.OwnO
 o3:V.OwnO
 o4:V.OwnO
structure RmOk (s:ArS)(P:List Tkn)(z:RmO):Prop where
 a:z.A.Perm (tLinks s.Tz)∧UpL z.A
 l1:Stb.Sta tnK ((z.A++rgQ s.rg).map lkT) z.L1∧Stb.Up tnK z.L1
 l2:Stb.Sta tnK (s.bg.map enT) z.L2∧Stb.Up tnK z.L2
 l3:Stb.Sta tnK ((s.bg.filter anQ).map anT) z.L3∧Stb.Up tnK z.L3
 l4:Stb.Sta tnK P z.L4∧Stb.Up tnK z.L4
 k0:ownOk 2 (tkL s.L s.L.length).length ((tkL s.L s.L.length).flatMap tkC) z.o0
 k1:ownOk 2 z.L1.length (z.L1.flatMap tnC) z.o1
 k2:ownOk 2 z.L2.length (z.L2.flatMap tnC) z.o2
 k3:ownOk 2 z.L3.length (z.L3.flatMap tnC) z.o3
 k4:ownOk 2 z.L4.length (z.L4.flatMap tnC) z.o4
def rmV (n:Nat)(z:RmO):List Value:=[ownV n z.o0,ownV z.L1.length z.o1,ownV z.L2.length z.o2,ownV z.L3.length z.o3,ownV z.L4.length z.o4]
abbrev rmS (s:ArS)(z:RmO):V.Sg:=[ownG 268 ((tkL s.L s.L.length).flatMap tkC) z.o0,ownG 268 (z.L1.flatMap tnC) z.o1,ownG 268 (z.L2.flatMap tnC) z.o2,ownG 268 (z.L3.flatMap tnC) z.o3,ownG 268 (z.L4.flatMap tnC) z.o4]
theorem arooms_g (x:ArR)(s:ArS)(db th n:Nat)(hA:ArOk th n x s)(hst:tStp s.Tz)(hn:(tLinks s.Tz).length≤1000)(hq:(rgQ s.rg).length≤1000)(hbg:s.bg.length≤1000)(hL:s.L.length≤32)(hc1:∀l∈tLinks s.Tz,-1000000≤l.cls∧l.cls≤1000000)(hc2:∀l∈rgQ s.rg,-1000000≤l.cls∧l.cls≤1000000)(hc3:∀l∈s.bg,-1000000≤l.cls∧l.cls≤1000000)(Pl:List Tkn)(pp:Option Addr)(pc:Nat)(hP:Pl.length≤1000)(w:World)(hp:V.slAt w pp 2 tnC Pl)(hpd:∀b o,pp=some ⟨b,o,none⟩→b∉V.ids (arS x s db))(hs:Sat (arS x s db) w):Calls Tryz.prog 102 [.pointer (some ⟨x.a,0,none⟩),.slice pp Pl.length pc].toArray w fun e w'=>∃z:RmO,RmOk s Pl z∧e= .returned (.agg (rmV (tkL s.L s.L.length).length z).toArray)∧Hp ⟨w,[]⟩ (rmS s z) w':=by
 refine Cs_ (arS x s db) Tryz.func102 rfl Tryz.ntmps102 hs<|Sq<|Rg<|Le AA fun b4 _=>pA_ 23 ?_
 refine Le (CV fun w hw=>atable_g x s w hw.at) fun _ _=>Le (CM ((tbS x.tb x.ms s.Tz)) fun w hw hs0=>all_g x.tb x.ms s.Tz hA.tb hst hn w hs0) fun y hy=>?_
 have hyl:y.2.length=(tLinks s.Tz).length:=hy.1.length_eq
 refine Lv Mv<|Le (CV fun w hw=>aline_g x s w hw.at) fun _ _=>Le (CM ((rgS 288 x.fb s.rg s.ro)) fun w hw hs0=>lall_c x.fb s.rg s.ro hA.rg w hs0) fun y2 hy2=>?_
 obtain⟨p2,c2,hv2,hr2⟩:=own_srcG (e:=165) lkC_len om_ hy2
 refine LW.re 20 (.slice p2 (rgQ s.rg).length c2) rfl hv2<|Le (Eff.appendAny ((rgQ s.rg).flatMap lkC) (sz:=5) (bytes:=48) (z:= .agg #[.string ⟨#[]⟩,.int .u64 0,.int .u64 0,.int .i64 0,.int .i64 0]) (xs:=y.2.flatMap lkC) (m0:=y.2.length) (o:=y.1) (m:=(rgQ s.rg).length) (pk:=[ownG 165 (y.2.flatMap lkC) (y.1)]) rfl rfl Tryz.underlying159 kr_ rfl om_ pk_ (by simp) hy.2.2 (by rw[V.flatMap_len lkC_len]) (fun hm0=>by obtain⟨b,hb,hr⟩:=hr2 om_;exact⟨b,0,hb,fun w hw=>hr hw pk_⟩) (lk_one1 _) om_ om_) fun om hom=>?_
 have hml:(y.2++rgQ s.rg).length=y.2.length+(rgQ s.rg).length:=List.length_append
 have hmf:(y.2++rgQ s.rg).flatMap lkC=y.2.flatMap lkC++(rgQ s.rg).flatMap lkC:=List.flatMap_append
 rw[← hml,← hmf] at hom⊢
 obtain⟨pm,cm,hvm,_,hsm⟩:=own_slg (e:=165) lkC_len (y.2++rgQ s.rg) om hom
 refine LW.re 21 (.slice pm (y.2++rgQ s.rg).length cm) rfl hvm<|pA_ 5 ?_
 refine cw_segs (ss:=ownG 165 ((y.2++rgQ s.rg).flatMap lkC) om::[(b4,.cells [.slice none 0 0,.slice none 0 0,.slice none 0 0,.slice none 0 0,.slice none 0 0].toArray 183 (0,0))]::(arS x s db)) ?_ pk_
 refine V.CW.perm (sg':=[]::ownG 165 ((y.2++rgQ s.rg).flatMap lkC) om::[(b4,.cells [.slice none 0 0,.slice none 0 0,.slice none 0 0,.slice none 0 0,.slice none 0 0].toArray 183 (0,0))]::(arS x s db)) ?_ (.refl _)
 refine loopA (γ:=Nat×V.OwnO) (fun k=>[(0,.pointer (some ⟨x.a,0,none⟩)),(1,.slice pp Pl.length pc),(4,.pointer (some ⟨b4,0,none⟩)),(5,ownV k.1 k.2),(6,.slice none 0 0),(7,.slice none 0 0),(21,.slice pm (y.2++rgQ s.rg).length cm),(22,.int .i64 ((y.2++rgQ s.rg).length:Nat)),(23,.int .i64 (k.1:Nat))]) (fun k=>ownG 268 ((((y.2++rgQ s.rg).take k.1).map lkT).flatMap tnC) k.2::ownG 165 ((y.2++rgQ s.rg).flatMap lkC) om::[(b4,.cells [.slice none 0 0,.slice none 0 0,.slice none 0 0,.slice none 0 0,.slice none 0 0].toArray 183 (0,0))]::(arS x s db)) (fun k=>k.1≤(y.2++rgQ s.rg).length∧ownOk 2 k.1 ((((y.2++rgQ s.rg).take k.1).map lkT).flatMap tnC) k.2) (fun k=>(y.2++rgQ s.rg).length-k.1) ((0,none)) ⟨Nat.zero_le _,⟨rfl,rfl⟩⟩ fun k=>?_
 rintro⟨hk1,hk2⟩
 refine pA_ 6 ?_
 refine Cd_ rfl (fun h24=>?_) fun h24=>?_
 ·have hk9:k.1<(y.2++rgQ s.rg).length:=by omega
  obtain⟨l,hl⟩:∃l,(y.2++rgQ s.rg)[k.1]? =some l:=⟨(y.2++rgQ s.rg)[k.1]'om_,by simp⟩
  have hlc: -1000000≤l.cls∧l.cls≤1000000:=by
   rcases List.mem_append.1 (List.mem_of_getElem? hl) with h8|h8
   ·exact hc1 l (hy.1.mem_iff.1 h8)
   ·exact hc2 l h8
  have e9:(((y.2++rgQ s.rg).take (k.1+1)).map lkT).flatMap tnC=(((y.2++rgQ s.rg).take k.1).map lkT).flatMap tnC++[.int .i64 l.line,.int .i64 l.cls]:=by rw[List.take_add_one,hl,← tkOf_C hlc];simp[lkT]
  obtain⟨mg,mr,mc,mo3,_⟩:=own_some3 hom om_
  obtain⟨rfl,rfl⟩:pm=some ⟨mg,0,none⟩∧cm=mc:=by
   rw[mo3] at hvm
   injection hvm with h1 h2 h3
   exact⟨h1.symm,h3.symm⟩
  subst mo3
  refine Sk<|Ps<|Sq<|Bk<|Sq<|Rg<|Lv (Val.indexAddrN (i:=k.1) rfl rfl Tryz.underlying159 Tryz.sizeOf165 om_)<|Lv (Val.loadFl (enc:=lkC) (sz:=5) (l:=(y.2++rgQ s.rg)) rfl Tryz.isAgg165 in_ lkC_len hl Tryz.sizeOf165)<|Le AA fun b9 _=>LeN (StW (cs:=lkC l)) fun _ _=>Nl<|Ps<|Rg<|Lv Mv<|Lv (Fa 3 3)<|Lv (Ld (v:= .int .i64 l.line))<|Lv (Fa 4 3)<|Lv (Ld (v:= .int .i64 l.cls))<|Lv (Bd ([.int .i64 l.line,.int .i64 l.cls]))<|Le (Eff.buildSlice (rfl) [_,_] Tryz.underlying181 Tryz.sizeOf268 (by exact Tryz.zeroValue268) rfl rfl rfl rfl (by rfl)) fun b33 _=>Le (Eff.appendAny ([.int .i64 l.line,.int .i64 l.cls]) (sz:=2) (bytes:=16) (z:= .agg #[.int .i64 0,.int .i64 0]) (xs:=(((y.2++rgQ s.rg).take k.1).map lkT).flatMap tnC) (m0:=k.1) (o:=k.2) (m:=1) (pk:=[ownG 268 ((((y.2++rgQ s.rg).take k.1).map lkT).flatMap tnC) (k.2)]) rfl rfl Tryz.underlying181 kr_ rfl om_ pk_ (by simp) hk2 (by rfl) (fun hm0=>⟨b33,0,rfl,fun w hw=>V.range_of_block (o:=0) (cs:=[.int .i64 l.line,.int .i64 l.cls]) (r:=[]) (hw.own _ (show InS (b33,.cells ([.int .i64 l.line,.int .i64 l.cls]).toArray 268 (0,0)) _ from in_).mem) rfl⟩) (by rfl) om_ om_) fun o5 ho5=>Lv Av<|Nl<|Bn<|Ps<|Rg<|Lv Ar<|Lv Mv<|Nl ?_
  refine PQ.round ((k.1+1,o5)) ⟨by simp only;omega,by simp only;rw[e9];exact ho5⟩ (by simp only;omega) (by repeat(first|exact trivial|refine⟨rfl,?_⟩)) (by dsimp only;rw[e9];repeat(first|exact .nil|apply Pick.cons|exact .here|apply Ext.there))
 ·have hk9:k.1=(y.2++rgQ s.rg).length:=by omega
  have e8:(((y.2++rgQ s.rg).take k.1).map lkT)=((y.2++rgQ s.rg).map lkT):=by rw[hk9,List.take_length]
  have hl1:((y.2++rgQ s.rg).map lkT).length=(y.2++rgQ s.rg).length:=List.length_map _
  rw[e8] at hk2⊢
  have hk3:ownOk 2 ((y.2++rgQ s.rg).map lkT).length (((y.2++rgQ s.rg).map lkT).flatMap tnC) k.2:=by rw[hl1,← hk9];exact hk2
  obtain⟨pz1,cz1,hvz1,_,hsz1⟩:=own_slg (e:=268) tnC_len ((y.2++rgQ s.rg).map lkT) k.2 hk3
  refine pA_ 9 ?_
  refine Le (CV fun w hw=>abag_g x s w hw.at) fun _ _=>Le (CM ((bgS x.lb s.bg s.bo)) fun w hw hs0=>ball_g x.lb s.bo s.bg hA.bg om_ w hs0) fun yb hyb=>?_
  obtain⟨pb,cb,hvb,_,hsb⟩:=own_slg (e:=270) enC_len s.bg yb hyb
  refine LW.re 38 (.slice pb s.bg.length cb) rfl hvb<|pA_ 5 ?_
  refine cw_segs (ss:=ownG 270 (s.bg.flatMap enC) yb::ownG 268 (((y.2++rgQ s.rg).map lkT).flatMap tnC) k.2::[(b4,.cells [.slice none 0 0,.slice none 0 0,.slice none 0 0,.slice none 0 0,.slice none 0 0].toArray 183 (0,0))]::(arS x s db)) ?_ pk_
  refine V.CW.perm (sg':=[]::[]::ownG 270 (s.bg.flatMap enC) yb::ownG 268 (((y.2++rgQ s.rg).map lkT).flatMap tnC) k.2::[(b4,.cells [.slice none 0 0,.slice none 0 0,.slice none 0 0,.slice none 0 0,.slice none 0 0].toArray 183 (0,0))]::(arS x s db)) ?_ (.refl _)
  refine CW.loop (γ:=Nat×V.OwnO×V.OwnO) (fun j=>[(0,.pointer (some ⟨x.a,0,none⟩)),(1,.slice pp Pl.length pc),(4,.pointer (some ⟨b4,0,none⟩)),(5,.slice pz1 ((y.2++rgQ s.rg).map lkT).length cz1),(6,ownV j.1 j.2.1),(7,ownV (((s.bg.take j.1).filter anQ).map anT).length j.2.2),(38,.slice pb s.bg.length cb),(39,.int .i64 (s.bg.length:Nat)),(40,.int .i64 (j.1:Nat))]) (fun j=>ownG 268 (((s.bg.take j.1).map enT).flatMap tnC) j.2.1::ownG 268 ((((s.bg.take j.1).filter anQ).map anT).flatMap tnC) j.2.2::ownG 270 (s.bg.flatMap enC) yb::ownG 268 (((y.2++rgQ s.rg).map lkT).flatMap tnC) k.2::[(b4,.cells [.slice none 0 0,.slice none 0 0,.slice none 0 0,.slice none 0 0,.slice none 0 0].toArray 183 (0,0))]::(arS x s db)) (fun j=>j.1≤s.bg.length∧ownOk 2 j.1 (((s.bg.take j.1).map enT).flatMap tnC) j.2.1∧ownOk 2 (((s.bg.take j.1).filter anQ).map anT).length ((((s.bg.take j.1).filter anQ).map anT).flatMap tnC) j.2.2) (fun j=>s.bg.length-j.1) ((0,none,none)) ⟨Nat.zero_le _,⟨rfl,rfl⟩,⟨rfl,rfl⟩⟩ (by exact⟨rfl,rfl,rfl,congrArg some (by rw[hk9,← hl1];exact hvz1),rfl,rfl,rfl,rfl,rfl,trivial⟩) pk_ fun j=>?_
  rintro⟨hj1,hj2,hj3⟩
  refine pA_ 6 ?_
  refine Cd_ rfl (fun h41=>?_) fun h41=>?_
  ·have hj9:j.1<s.bg.length:=by omega
   obtain⟨en,hen⟩:∃l,s.bg[j.1]? =some l:=⟨s.bg[j.1],by simp⟩
   have hec:=hc3 en (List.mem_of_getElem? hen)
   have hT3:(((s.bg.take j.1).filter anQ).map anT).length≤j.1:=by rw[List.length_map];exact Nat.le_trans (List.length_filter_le _ _) (List.length_take_le _ _)
   have e9:((s.bg.take (j.1+1)).map enT).flatMap tnC=((s.bg.take j.1).map enT).flatMap tnC++[.int .i64 en.line,.int .i64 en.cls]:=by rw[List.take_add_one,hen,← tkOf_C hec];simp[enT]
   obtain⟨qg,qr,qc,qo3,_⟩:=own_some3 hyb om_
   obtain⟨rfl,rfl⟩:pb=some ⟨qg,0,none⟩∧cb=qc:=by
    rw[qo3] at hvb
    injection hvb with h1 h2 h3
    exact⟨h1.symm,h3.symm⟩
   subst qo3
   refine Sk<|Ps<|Sq<|Bk<|Sq<|Rg<|Lv (Val.indexAddrN (i:=j.1) rfl rfl Tryz.underlying198 Tryz.sizeOf270 om_)<|Lv (Val.loadFl (enc:=enC) (sz:=5) (l:=s.bg) rfl Tryz.isAgg270 in_ enC_len hen Tryz.sizeOf270)<|Le AA fun b11 _=>LeN (StW (cs:=enC en)) fun _ _=>Nl<|Ps<|Sq<|Rg<|Lv Mv<|Lv (Fa 0 3)<|Lv (Ld (v:= .int .i64 en.line))<|Lv (Fa 1 3)<|Lv (Ld (v:= .int .i64 en.cls))<|Lv (Bd ([.int .i64 en.line,.int .i64 en.cls]))<|Le (Eff.buildSlice (rfl) [_,_] Tryz.underlying181 Tryz.sizeOf268 (by exact Tryz.zeroValue268) rfl rfl rfl rfl (by rfl)) fun b50 _=>Le (Eff.appendAny ([.int .i64 en.line,.int .i64 en.cls]) (sz:=2) (bytes:=16) (z:= .agg #[.int .i64 0,.int .i64 0]) (xs:=((s.bg.take j.1).map enT).flatMap tnC) (m0:=j.1) (o:=j.2.1) (m:=1) (pk:=[ownG 268 (((s.bg.take j.1).map enT).flatMap tnC) (j.2.1)]) rfl rfl Tryz.underlying181 kr_ rfl om_ pk_ (by simp) hj2 (by rfl) (fun hm0=>⟨b50,0,rfl,fun w hw=>V.range_of_block (o:=0) (cs:=[.int .i64 en.line,.int .i64 en.cls]) (r:=[]) (hw.own _ (show InS (b50,.cells ([.int .i64 en.line,.int .i64 en.cls]).toArray 268 (0,0)) _ from in_).mem) rfl⟩) (by rfl) om_ om_) fun o6 ho6=>Lv Av<|Nl<|Ps<|Sq<|Rg<|Lv (Fa 4 3)<|Lv (Ld (v:= .int .i64 en.anti))<|Lv Cm<|Nl<|Ps ?_
   refine Cd_ rfl (fun h54=>?_) fun h54=>?_
   ·have h54:¬en.anti= -1:=h54
    refine Rg<|Lv Mv<|Lv (Fa 4 3)<|Lv (Ld (v:= .int .i64 en.anti))<|Lv (Bd ([.int .i64 en.anti,.int .i64 0]))<|Le (Eff.buildSlice (rfl) [_,_] Tryz.underlying181 Tryz.sizeOf268 (by exact Tryz.zeroValue268) rfl rfl rfl rfl (by rfl)) fun b59 _=>Le (Eff.appendAny ([.int .i64 en.anti,.int .i64 0]) (sz:=2) (bytes:=16) (z:= .agg #[.int .i64 0,.int .i64 0]) (xs:=(((s.bg.take j.1).filter anQ).map anT).flatMap tnC) (m0:=(((s.bg.take j.1).filter anQ).map anT).length) (o:=j.2.2) (m:=1) (pk:=[ownG 268 ((((s.bg.take j.1).filter anQ).map anT).flatMap tnC) (j.2.2)]) rfl rfl Tryz.underlying181 kr_ rfl om_ pk_ (by simp) hj3 (by rfl) (fun hm0=>⟨b59,0,rfl,fun w hw=>V.range_of_block (o:=0) (cs:=[.int .i64 en.anti,.int .i64 0]) (r:=[]) (hw.own _ (show InS (b59,.cells ([.int .i64 en.anti,.int .i64 0]).toArray 268 (0,0)) _ from in_).mem) rfl⟩) (by rfl) om_ om_) fun o7 ho7=>Lv Av<|Nl<|Bn<|Ps<|Rg<|Lv Ar<|Lv Mv<|Nl ?_
    have e10:(((s.bg.take (j.1+1)).filter anQ).map anT).flatMap tnC=(((s.bg.take j.1).filter anQ).map anT).flatMap tnC++[.int .i64 en.anti,.int .i64 0]:=by rw[List.take_add_one,hen,← tkOf_C (c:=0) om_,List.filter_append];simp[anT,anQ,h54]
    have hl10:(((s.bg.take (j.1+1)).filter anQ).map anT).length=(((s.bg.take j.1).filter anQ).map anT).length+1:=by rw[List.take_add_one,hen,List.filter_append];simp[anQ,h54]
    refine PQ.round ((j.1+1,o6,o7)) ⟨by simp only;omega,by simp only;rw[e9];exact ho6,by simp only;rw[e10,hl10];exact ho7⟩ (by simp only;omega) (by exact⟨rfl,rfl,rfl,rfl,rfl,congrArg (fun q=>some (ownV q o7)) hl10.symm,rfl,rfl,rfl,trivial⟩) (by dsimp only;rw[e9,e10];repeat(first|exact .nil|apply Pick.cons|exact .here|apply Ext.there))
   ·have h54:en.anti= -1:=by simpa using h54
    refine pA_ 7 ?_
    have e11:((s.bg.take (j.1+1)).filter anQ).map anT=(((s.bg.take j.1).filter anQ).map anT):=by rw[List.take_add_one,hen,List.filter_append];simp[anQ,h54]
    have e10:(((s.bg.take (j.1+1)).filter anQ).map anT).flatMap tnC=(((s.bg.take j.1).filter anQ).map anT).flatMap tnC:=by rw[e11]
    refine PQ.round ((j.1+1,o6,j.2.2)) ⟨by simp only;omega,by simp only;rw[e9];exact ho6,by simp only;rw[e11];exact hj3⟩ (by simp only;omega) (by exact⟨rfl,rfl,rfl,rfl,rfl,congrArg (fun q=>some (ownV (List.length q) j.2.2)) e11.symm,rfl,rfl,rfl,trivial⟩) (by dsimp only;rw[e9,e10];repeat(first|exact .nil|apply Pick.cons|exact .here|apply Ext.there))
  ·have hj9:j.1=s.bg.length:=by omega
   have e8:s.bg.take j.1=s.bg:=by rw[hj9,List.take_length]
   rw[e8] at hj2 hj3⊢
   have hl2:(s.bg.map enT).length=s.bg.length:=List.length_map _
   obtain⟨pz2,cz2,hvz2,_,hsz2⟩:=own_slg (e:=268) tnC_len (s.bg.map enT) j.2.1 (by rw[hl2,← hj9];exact hj2)
   obtain⟨pz3,cz3,hvz3,_,hsz3⟩:=own_slg (e:=268) tnC_len ((s.bg.filter anQ).map anT) j.2.2 hj3
   have hl3:((s.bg.filter anQ).map anT).length≤s.bg.length:=by rw[List.length_map];exact List.length_filter_le _ _
   refine pA_ 8 ?_
   refine Le (CV fun w hw=>apool_g x s w hw.at) fun _ _=>Le (Cm_ (taken_g x.pb x.sb s.L hL)) fun o0 ho0=>?_
   obtain⟨pt0,cu0,hvt0,_,_⟩:=own_slg (e:=268) tkC_len _ o0 ho0
   refine LW.re 64 (.slice pt0 (tkL s.L s.L.length).length cu0) rfl hvt0<|Lv Mv<|Le (CM [] fun w hw hs0=>rising_g ((y.2++rgQ s.rg).map lkT) pz1 cz1 (by simp only[List.length_map,List.length_append] at*;omega) w (hsz1 hw pk_)) fun z1 hz1=>?_
   obtain⟨pt1,cu1,hvt1,_,_⟩:=own_slg (e:=268) tnC_len z1.1 z1.2 hz1.2.2
   refine LW.re 66 (.slice pt1 z1.1.length cu1) rfl hvt1<|Lv Mv<|LW.re 67 (.slice pz2 (s.bg.map enT).length cz2) rfl (by rw[hj9,← hl2];exact hvz2)<|Le (CM [] fun w hw hs0=>rising_g (s.bg.map enT) pz2 cz2 (by simp only[List.length_map,List.length_append] at*;omega) w (hsz2 hw pk_)) fun z2 hz2=>?_
   obtain⟨pt2,cu2,hvt2,_,_⟩:=own_slg (e:=268) tnC_len z2.1 z2.2 hz2.2.2
   refine LW.re 68 (.slice pt2 z2.1.length cu2) rfl hvt2<|Lv Mv<|LW.re 69 (.slice pz3 ((s.bg.filter anQ).map anT).length cz3) rfl (by exact hvz3)<|Le (CM [] fun w hw hs0=>rising_g ((s.bg.filter anQ).map anT) pz3 cz3 (by simp only[List.length_map,List.length_append] at*;omega) w (hsz3 hw pk_)) fun z3 hz3=>?_
   obtain⟨pt3,cu3,hvt3,_,_⟩:=own_slg (e:=268) tnC_len z3.1 z3.2 hz3.2.2
   refine LW.re 70 (.slice pt3 z3.1.length cu3) rfl hvt3<|Lv Mv<|Le (CM [] fun w hw hs0=>rising_g Pl pp pc om_ w (hw.slAt hp hpd)) fun z4 hz4=>?_
   obtain⟨pt4,cu4,hvt4,_,_⟩:=own_slg (e:=268) tnC_len z4.1 z4.2 hz4.2.2
   refine LW.re 72 (.slice pt4 z4.1.length cu4) rfl hvt4<|Lv (Bd [.slice pt0 (tkL s.L s.L.length).length cu0,.slice pt1 z1.1.length cu1,.slice pt2 z2.1.length cu2,.slice pt3 z3.1.length cu3,.slice pt4 z4.1.length cu4])<|LW.re 73 (.agg [ownV (tkL s.L s.L.length).length o0,ownV z1.1.length z1.2,ownV z2.1.length z2.2,ownV z3.1.length z3.2,ownV z4.1.length z4.2].toArray) rfl (by rw[hvt0,hvt1,hvt2,hvt3,hvt4])<|LeN (StW (cs:=[ownV (tkL s.L s.L.length).length o0,ownV z1.1.length z1.2,ownV z2.1.length z2.2,ownV z3.1.length z3.2,ownV z4.1.length z4.2]) (h1:=by simp only[rmV,List.all_cons,List.all_nil,V.ownV_one,Bool.and_true])) fun _ _=>Nl<|Ps<|Rt<|PQ.retC (l:=[ownV (tkL s.L s.L.length).length o0,ownV z1.1.length z1.2,ownV z2.1.length z2.2,ownV z3.1.length z3.2,ownV z4.1.length z4.2]) rfl rfl in_ Tryz.isAgg183 (by exact Tryz.sizeOf183) ?_
   intro w' hw;exact⟨(⟨y.2,z1.1,z2.1,z3.1,z4.1,o0,z1.2,z2.2,z3.2,z4.2⟩:RmO),⟨⟨hy.1,hy.2.1⟩,⟨hz1.1,hz1.2.1⟩,⟨hz2.1,hz2.2.1⟩,⟨hz3.1,hz3.2.1⟩,⟨hz4.1,hz4.2.1⟩,ho0,hz1.2.2,hz2.2.2,hz3.2.2,hz4.2.2⟩,rfl,hp_new hs (hw.pick (ss:=rmS s (⟨y.2,z1.1,z2.1,z3.1,z4.1,o0,z1.2,z2.2,z3.2,z4.2⟩:RmO)++(arS x s db)) pk_)⟩
end
section
attribute [local irreducible] V.CW V.LW V.QW V.RW V.PQ V.Val V.Eff V.Qcall
open V (str byC ownV ownG ownS ownOk)
theorem tnC_all (l:List Tkn):(l.flatMap tnC).all (·.oneCell')=true:=by
 rw[List.all_eq_true]
 intro v hv
 obtain⟨x,_,hx⟩:=List.mem_flatMap.1 hv
 have h8:∀v∈tnC x,v.oneCell'=true:=by intro v h;simp only[tnC,List.mem_cons,List.not_mem_nil,or_false] at h;rcases h with rfl|rfl<;>rfl
 exact h8 v hx
theorem up_take {Z:List Tkn}(hU:Stb.Up tnK Z){K:Int}{a:Nat}(h:∀y,Z[a-1]? =some y→tnK y≤K)(ha:0<a)(hl:a≤Z.length):∀x∈Z.take a,tnK x≤K:=by
 intro x hx
 obtain⟨j,hj,rfl⟩:=List.getElem_of_mem hx
 have hj2:=hj
 rw[List.length_take] at hj2
 rw[List.getElem_take]
 have h1:=h (Z[a-1]'om_) (by simp)
 rcases Nat.lt_or_ge j (a-1) with h2|h2
 ·exact Int.le_trans (List.pairwise_iff_getElem.1 hU j (a-1) om_ om_ h2) h1
 ·have e:j=a-1:=by omega
  subst e
  exact h1
theorem up_ins {Z:List Tkn}(hU:Stb.Up tnK Z){x:Tkn}{a:Nat}(h1:∀y∈Z.take a,tnK y≤tnK x)(h2:∀y∈Z.drop a,tnK x<tnK y):Stb.Up tnK (Z.take a++x::Z.drop a):=by
 have hU2:Stb.Up tnK (Z.take a++Z.drop a):=by rw[List.take_append_drop];exact hU
 obtain⟨q1,q2,q3⟩:=List.pairwise_append.1 hU2
 refine List.pairwise_append.2 ⟨q1,List.pairwise_cons.2 ⟨fun y hy=>Int.le_of_lt (h2 y hy),q2⟩,fun y hy z hz=>?_⟩
 rcases List.mem_cons.1 hz with rfl|hz
 ·exact h1 y hy
 ·exact q3 y hy z hz
theorem sl0 (q:Option Addr)(m n c:Nat):Value.slice (if c=0 then q else q.map (·.add (0*m))) (n-0) (c-0)= .slice q n c:=by
 rcases q with _|q<;>simp[Addr.add]
theorem own_srcP {α:Type}{enc:α→List Value}{sz e:Nat}(hk:∀x,(enc x).length=sz)(hz:0<sz){Z:List α}{o:V.OwnO}(h:ownOk sz Z.length (Z.flatMap enc) o){a:Nat}(ha:a≤Z.length):∃p c,ownV Z.length o= .slice p Z.length c∧Z.length≤c∧(0<a→∃b off,p=some ⟨b,off,none⟩∧∀{B:V.Base} {sg r:V.Sg} {w:World},Hp B sg w→Pick [ownG e (Z.flatMap enc) o] sg r→w.rangeAt b off ((Z.take a).flatMap enc))∧(0<Z.length-a→∃b off,(if c=a then p else p.map (·.add (a*sz)))=some ⟨b,off,none⟩∧∀{B:V.Base} {sg r:V.Sg} {w:World},Hp B sg w→Pick [ownG e (Z.flatMap enc) o] sg r→w.rangeAt b off ((Z.drop a).flatMap enc)):=by
 rcases o with _|⟨gb,rest,cap⟩
 ·have h8:Z.length=0:=h.2
  exact⟨none,0,by rw[h8];rfl,by omega,fun h9=>absurd h9 om_,fun h9=>absurd h9 om_⟩
 ·have hc:Z.length≤cap:=by
   have h7:(Z.flatMap enc).length+rest.length=cap*sz:=h.2
   rw[V.flatMap_len hk] at h7
   exact Nat.le_of_mul_le_mul_right (by omega:Z.length*sz≤cap*sz) hz
  have e8:Z.flatMap enc=(Z.take a).flatMap enc++(Z.drop a).flatMap enc:=by rw[← List.flatMap_append,List.take_append_drop]
  have l8:((Z.take a).flatMap enc).length=a*sz:=by rw[V.flatMap_len hk,List.length_take,Nat.min_eq_left ha]
  refine⟨some ⟨gb,0,none⟩,cap,rfl,hc,fun _=>⟨gb,0,rfl,fun hw hp=>?_⟩,fun h9=>⟨gb,a*sz,by rw[if_neg om_];simp[Addr.add];exact Eq.symm,fun hw hp=>?_⟩⟩
  ·exact V.range_of_block (o:=0) (r:=(Z.drop a).flatMap enc++rest) ((hw.pick hp).own _ (show InS (gb,.cells (Z.flatMap enc++rest).toArray e (0,0)) _ from .here).mem) (by rw[e8,List.append_assoc];rfl)
  ·exact V.range_of_block (o:=a*sz) (r:=rest) ((hw.pick hp).own _ (show InS (gb,.cells (Z.flatMap enc++rest).toArray e (0,0)) _ from .here).mem) (by rw[e8,List.append_assoc,List.drop_left' l8])
theorem rsorted_g (L:List Tkn)(o:V.OwnO)(ho:ownOk 2 L.length (L.flatMap tnC) o)(hl:L.length≤100000):Mo Tryz.prog 174 [ownV L.length o] [ownG 268 (L.flatMap tnC) o] (fun z:List Tkn×V.OwnO=>Stb.Sta tnK L z.1∧Stb.Up tnK z.1∧ownOk 2 z.1.length (z.1.flatMap tnC) z.2) (fun z=>ownV z.1.length z.2) (fun z=>[ownG 268 (z.1.flatMap tnC) z.2,ownG 268 (L.flatMap tnC) o]):=by
 intro w hs
 obtain⟨pL,cL,hvL,_,_⟩:=own_slg (e:=268) tnC_len L o ho
 refine Ca_ Tryz.func174 rfl Tryz.ntmps174 hs<|pA_ 17 ?_
 refine nilSeg<|loopA (γ:=Nat×List Tkn×V.OwnO) (fun k=>[(0,ownV L.length o),(3,ownV k.2.1.length k.2.2),(4,.int .i64 (k.1:Nat))]) (fun k=>[ownG 268 (k.2.1.flatMap tnC) k.2.2,ownG 268 (L.flatMap tnC) o]) (fun k=>k.1≤L.length∧Stb.Sta tnK (L.take k.1) k.2.1∧Stb.Up tnK k.2.1∧ownOk 2 k.2.1.length (k.2.1.flatMap tnC) k.2.2) (fun k=>L.length-k.1) ((0,[],none)) ⟨Nat.zero_le _,⟨rfl,fun _=>rfl⟩,List.Pairwise.nil,rfl,rfl⟩ fun k=>?_
 rintro⟨hk1,hk2,hk3,hk4⟩
 refine pA_ 5 ?_
 refine LW.re 8 (.slice pL L.length cL) rfl hvL<|pA_ 4 ?_
 refine Cd_ rfl (fun h10=>?_) fun h10=>?_
 ·obtain⟨i,Z,oz⟩:=k
  simp only at hk1 hk2 hk3 hk4 h10
  have hi:i<L.length:=by omega
  obtain⟨l,hl9⟩:∃l,L[i]? =some l:=⟨L[i],by simp⟩
  have hb9:=l.b
  have hz9:Z.length=i:=by have h8:=hk2.1;rw[List.length_take] at h8;omega
  obtain⟨g,rest,cap,rfl,_⟩:=own_some3 ho om_
  obtain⟨pz,cz,hvz,_,_⟩:=own_slg (e:=268) tnC_len Z oz hk4
  refine pA_ 7 ?_
  refine LW.re 13 (.slice pz Z.length cz) rfl hvz<|pA_ 6 ?_
  refine nilSeg<|loopA (γ:=Nat) (fun e=>[(0,ownV L.length (some (g,rest,cap))),(3,ownV Z.length oz),(4,.int .i64 (i:Nat)),(5,.int .i64 (e:Nat))]) (fun _=>[[],ownG 268 (Z.flatMap tnC) oz,ownG 268 (L.flatMap tnC) (some (g,rest,cap))]) (fun e=>e≤Z.length∧∀x∈Z.drop e,tnK l<tnK x) (fun e=>e) (Z.length) ⟨Nat.le_refl _,by intro x hx;simp at hx⟩ fun e=>?_
  rintro⟨he1,he2⟩
  refine Sq<|Sq<|Qt<|pA_ 3 ?_
  refine QW.split (d:=17) rfl (fun h17=>?_) (fun h17=>?_)
  ·replace h17:=bT h17
   have he:0<e:=by omega
   obtain⟨y,hy⟩:∃y,Z[e-1]? =some y:=⟨Z[e-1]'om_,by simp⟩
   have hy9:=y.b
   obtain⟨zg,zr,zc,hoz,_⟩:=own_some3 hk4 om_
   subst hoz
   have hpz:pz=some ⟨zg,0,none⟩:=by
    have h8:ownV Z.length (some (zg,zr,zc))= .slice (some ⟨zg,0,none⟩) Z.length zc:=rfl
    rw[h8] at hvz
    injection hvz with h9
    exact h9.symm
   subst hpz
   have hd9:Z.drop (e-1)=y::Z.drop e:=by
    obtain⟨h7,h8⟩:=List.getElem?_eq_some_iff.1 hy
    rw[List.drop_eq_getElem_cons h7,h8,show e-1+1=e by omega]
   refine Qv Mv<|QW.re 18 (.slice (some ⟨zg,0,none⟩) Z.length zc) rfl (by rfl)<|Qv Mv<|Qv Ar<|QW.re 20 (.int .i64 ((e-1:Nat):Int)) rfl (by congr 1;omega)<|Qv (Val.indexAddrN (i:=e-1) rfl rfl Tryz.underlying181 Tryz.sizeOf268 om_)<|Qv (Fa 0 3)<|QW.re 22 (.pointer (some ⟨zg,(e-1)*2+0,none⟩)) rfl (by simp)<|Qv (Ld (v:= .int .i64 y.line) (hl:=own_cell tnC_len hy rfl zr))<|Qv Mv<|QW.re 24 (.slice (some ⟨g,0,none⟩) L.length cap) rfl (by rfl)<|Qv Mv<|Qv (Val.indexAddrN (i:=i) rfl rfl Tryz.underlying181 Tryz.sizeOf268 om_)<|Qv (Fa 0 3)<|QW.re 27 (.pointer (some ⟨g,i*2+0,none⟩)) rfl (by simp)<|Qv (Ld (v:= .int .i64 l.line) (hl:=own_cell tnC_len hl9 rfl rest))<|Qv Cm<|Qv Mv ?_
   refine QW.split (d:=30) rfl (fun h30=>?_) (fun h30=>?_)
   ·replace h30:=bT h30
    have h30:y.line>l.line:=h30
    refine pA_ 37 ?_
    refine LW.re 60 (.int .i64 ((e-1:Nat):Int)) rfl (by congr 1;omega)<|pA_ 3 ?_
    exact roundA (e-1) ⟨by omega,fun x hx=>by rw[hd9] at hx;rcases List.mem_cons.1 hx with h7|h7;(subst h7;unfold tnK;omega);exact he2 x h7⟩ om_
   ·replace h30:=bF h30
    have h30:y.line≤l.line:=h30
    refine Qv Mv<|QW.re 31 (.slice (some ⟨zg,0,none⟩) Z.length zc) rfl (by rfl)<|Qv Mv<|Qv Ar<|QW.re 33 (.int .i64 ((e-1:Nat):Int)) rfl (by congr 1;omega)<|Qv (Val.indexAddrN (i:=e-1) rfl rfl Tryz.underlying181 Tryz.sizeOf268 om_)<|Qv (Fa 0 3)<|QW.re 35 (.pointer (some ⟨zg,(e-1)*2+0,none⟩)) rfl (by simp)<|Qv (Ld (v:= .int .i64 y.line) (hl:=own_cell tnC_len hy rfl zr))<|Qv Mv<|QW.re 37 (.slice (some ⟨g,0,none⟩) L.length cap) rfl (by rfl)<|Qv Mv<|Qv (Val.indexAddrN (i:=i) rfl rfl Tryz.underlying181 Tryz.sizeOf268 om_)<|Qv (Fa 0 3)<|QW.re 40 (.pointer (some ⟨g,i*2+0,none⟩)) rfl (by simp)<|Qv (Ld (v:= .int .i64 l.line) (hl:=own_cell tnC_len hl9 rfl rest))<|Qv Cm<|Qv Mv ?_
    refine QW.split (d:=43) rfl (fun h43=>?_) (fun h43=>?_)
    ·replace h43:=bT h43
     have h43:y.line=l.line:=h43
     refine Qv Mv<|QW.re 44 (.slice (some ⟨zg,0,none⟩) Z.length zc) rfl (by rfl)<|Qv Mv<|Qv Ar<|QW.re 46 (.int .i64 ((e-1:Nat):Int)) rfl (by congr 1;omega)<|Qv (Val.indexAddrN (i:=e-1) rfl rfl Tryz.underlying181 Tryz.sizeOf268 om_)<|Qv (Fa 1 3)<|QW.re 48 (.pointer (some ⟨zg,(e-1)*2+1,none⟩)) rfl (by simp)<|Qv (Ld (v:= .int .i64 y.cls) (hl:=own_cell tnC_len hy rfl zr))<|Qv Mv<|QW.re 50 (.slice (some ⟨g,0,none⟩) L.length cap) rfl (by rfl)<|Qv Mv<|Qv (Val.indexAddrN (i:=i) rfl rfl Tryz.underlying181 Tryz.sizeOf268 om_)<|Qv (Fa 1 3)<|QW.re 53 (.pointer (some ⟨g,i*2+1,none⟩)) rfl (by simp)<|Qv (Ld (v:= .int .i64 l.cls) (hl:=own_cell tnC_len hl9 rfl rest))<|pA_ 6 ?_
     refine Cd_ rfl (fun h58=>?_) fun h58=>?_
     ·have h58:y.cls>l.cls:=h58
      refine pA_ 6 ?_
      refine LW.re 60 (.int .i64 ((e-1:Nat):Int)) rfl (by congr 1;omega)<|pA_ 3 ?_
      exact roundA (e-1) ⟨by omega,fun x hx=>by rw[hd9] at hx;rcases List.mem_cons.1 hx with h7|h7;(subst h7;unfold tnK;omega);exact he2 x h7⟩ om_
     ·have h58:y.cls≤l.cls:=h58
      have hx:∀x∈Z.take e,tnK x≤tnK l:=up_take hk3 (fun y2 hy2=>by rw[hy] at hy2;injection hy2 with hy2;subst hy2;unfold tnK;omega) he he1
      obtain⟨pp,cp,hvp,hcp,hr1,hr2⟩:=own_srcP (e:=268) tnC_len om_ hk4 he1
      have e9:(Z.take e).flatMap tnC++tnC l++(Z.drop e).flatMap tnC=(Z.take e++l::Z.drop e).flatMap tnC:=by simp
      have el9:e+1+(Z.length-e)=(Z.take e++l::Z.drop e).length:=by simp only[List.length_append,List.length_take,List.length_cons,List.length_drop];omega
      refine pA_ 14 ?_
      refine LW.re 62 (.slice pp Z.length cp) rfl hvp<|Lv Mv<|Lv (Val.sliceG 0 e cp rfl Tryz.underlying181 Tryz.sizeOf268 rfl ⟨_,rfl⟩ rfl (fun h=>by cases h) om_ om_ om_)<|LW.re 64 (.slice pp e cp) rfl (sl0 _ _ _ _)<|Le (Eff.appendAny ((Z.take e).flatMap tnC) (sz:=2) (bytes:=16) (z:= .agg #[.int .i64 0,.int .i64 0]) (xs:=([]:List Value)) (m0:=0) (o:=none) (m:=e) (pk:=[ownG 268 (([]:List Value)) (none)]) rfl rfl Tryz.underlying181 kr_ rfl om_ pk_ (by simp) ⟨rfl,rfl⟩ (by rw[V.flatMap_len tnC_len,List.length_take,Nat.min_eq_left he1]) (fun hm0=>by obtain⟨b,off,h1,h2⟩:=hr1 om_;exact⟨b,off,h1,fun w hw=>h2 hw pk_⟩) (tnC_all _) om_ om_) fun o65 ho65=>?_
      simp only[List.nil_append,Nat.zero_add] at ho65⊢
      refine Lv Av<|Nl<|Ps<|Sq<|Rg<|Lv Mv<|Lv Mv<|LW.re 67 (.slice (some ⟨g,0,none⟩) L.length cap) rfl (by rfl)<|Lv Mv<|Lv (Val.indexAddrN (i:=i) rfl rfl Tryz.underlying181 Tryz.sizeOf268 om_)<|LW.re 69 (.pointer (some ⟨g,i*2,none⟩)) rfl (by simp)<|Lv (La (tnC l) (r:=(own_el tnC_len hl9 rest).choose) (hl:=(own_el tnC_len hl9 rest).choose_spec))<|Le (Eff.buildSlice (rfl) [_,_] Tryz.underlying181 Tryz.sizeOf268 (by exact Tryz.zeroValue268) rfl rfl rfl rfl (by rfl)) fun b71 _=>Le (Eff.appendAny (tnC l) (sz:=2) (bytes:=16) (z:= .agg #[.int .i64 0,.int .i64 0]) (xs:=(Z.take e).flatMap tnC) (m0:=e) (o:=o65) (m:=1) (pk:=[ownG 268 ((Z.take e).flatMap tnC) (o65)]) rfl rfl Tryz.underlying181 kr_ rfl om_ pk_ (by simp) ho65 (by rfl) (fun hm0=>⟨b71,0,rfl,fun w hw=>V.range_of_block (o:=0) (cs:=tnC l) (r:=[]) (hw.own _ (show InS (b71,.cells (tnC l).toArray 268 (0,0)) _ from in_).mem) rfl⟩) (by rfl) om_ om_) fun o72 ho72=>Lv Av<|Nl<|Ps<|Rg<|Lv Mv<|Lv Mv<|LW.re 74 (.slice pp Z.length cp) rfl hvp<|Lv Mv<|Lv (Val.sliceG e Z.length cp rfl Tryz.underlying181 Tryz.sizeOf268 ⟨_,rfl⟩ rfl rfl (fun _=>rfl) om_ om_ om_)<|Le (Eff.appendAny ((Z.drop e).flatMap tnC) (sz:=2) (bytes:=16) (z:= .agg #[.int .i64 0,.int .i64 0]) (xs:=((Z.take e).flatMap tnC++tnC l)) (m0:=(e+1)) (o:=o72) (m:=(Z.length-e)) (pk:=[ownG 268 (((Z.take e).flatMap tnC++tnC l)) (o72)]) rfl rfl Tryz.underlying181 kr_ rfl om_ pk_ (by simp) ho72 (by rw[V.flatMap_len tnC_len,List.length_drop]) (fun hm0=>by obtain⟨b,off,h1,h2⟩:=hr2 om_;exact⟨b,off,h1,fun w hw=>h2 hw pk_⟩) (tnC_all _) om_ om_) ?_
      intro o77 ho77
      rw[e9,el9] at ho77⊢
      refine pA_ 9 ?_
      exact roundA ((i+1,Z.take e++l::Z.drop e,o77)) ⟨by simp only;omega,by simp only;rw[List.take_add_one,hl9];exact(Stb.Sta.app hk2 (Stb.Sta.refl [l])).trans (Stb.ins_sta Z e l he2),up_ins hk3 hx he2,ho77⟩ (by simp only;omega)
    ·replace h43:=bF h43
     have h43:¬y.line=l.line:=h43
     have hx:∀x∈Z.take e,tnK x≤tnK l:=up_take hk3 (fun y2 hy2=>by rw[hy] at hy2;injection hy2 with hy2;subst hy2;unfold tnK;omega) he he1
     obtain⟨pp,cp,hvp,hcp,hr1,hr2⟩:=own_srcP (e:=268) tnC_len om_ hk4 he1
     have e9:(Z.take e).flatMap tnC++tnC l++(Z.drop e).flatMap tnC=(Z.take e++l::Z.drop e).flatMap tnC:=by simp
     have el9:e+1+(Z.length-e)=(Z.take e++l::Z.drop e).length:=by simp only[List.length_append,List.length_take,List.length_cons,List.length_drop];omega
     refine pA_ 32 ?_
     refine LW.re 62 (.slice pp Z.length cp) rfl hvp<|Lv Mv<|Lv (Val.sliceG 0 e cp rfl Tryz.underlying181 Tryz.sizeOf268 rfl ⟨_,rfl⟩ rfl (fun h=>by cases h) om_ om_ om_)<|LW.re 64 (.slice pp e cp) rfl (sl0 _ _ _ _)<|Le (Eff.appendAny ((Z.take e).flatMap tnC) (sz:=2) (bytes:=16) (z:= .agg #[.int .i64 0,.int .i64 0]) (xs:=([]:List Value)) (m0:=0) (o:=none) (m:=e) (pk:=[ownG 268 (([]:List Value)) (none)]) rfl rfl Tryz.underlying181 kr_ rfl om_ pk_ (by simp) ⟨rfl,rfl⟩ (by rw[V.flatMap_len tnC_len,List.length_take,Nat.min_eq_left he1]) (fun hm0=>by obtain⟨b,off,h1,h2⟩:=hr1 om_;exact⟨b,off,h1,fun w hw=>h2 hw pk_⟩) (tnC_all _) om_ om_) fun o65 ho65=>?_
     simp only[List.nil_append,Nat.zero_add] at ho65⊢
     refine Lv Av<|Nl<|Ps<|Sq<|Rg<|Lv Mv<|Lv Mv<|LW.re 67 (.slice (some ⟨g,0,none⟩) L.length cap) rfl (by rfl)<|Lv Mv<|Lv (Val.indexAddrN (i:=i) rfl rfl Tryz.underlying181 Tryz.sizeOf268 om_)<|LW.re 69 (.pointer (some ⟨g,i*2,none⟩)) rfl (by simp)<|Lv (La (tnC l) (r:=(own_el tnC_len hl9 rest).choose) (hl:=(own_el tnC_len hl9 rest).choose_spec))<|Le (Eff.buildSlice (rfl) [_,_] Tryz.underlying181 Tryz.sizeOf268 (by exact Tryz.zeroValue268) rfl rfl rfl rfl (by rfl)) fun b71 _=>Le (Eff.appendAny (tnC l) (sz:=2) (bytes:=16) (z:= .agg #[.int .i64 0,.int .i64 0]) (xs:=(Z.take e).flatMap tnC) (m0:=e) (o:=o65) (m:=1) (pk:=[ownG 268 ((Z.take e).flatMap tnC) (o65)]) rfl rfl Tryz.underlying181 kr_ rfl om_ pk_ (by simp) ho65 (by rfl) (fun hm0=>⟨b71,0,rfl,fun w hw=>V.range_of_block (o:=0) (cs:=tnC l) (r:=[]) (hw.own _ (show InS (b71,.cells (tnC l).toArray 268 (0,0)) _ from in_).mem) rfl⟩) (by rfl) om_ om_) fun o72 ho72=>Lv Av<|Nl<|Ps<|Rg<|Lv Mv<|Lv Mv<|LW.re 74 (.slice pp Z.length cp) rfl hvp<|Lv Mv<|Lv (Val.sliceG e Z.length cp rfl Tryz.underlying181 Tryz.sizeOf268 ⟨_,rfl⟩ rfl rfl (fun _=>rfl) om_ om_ om_)<|Le (Eff.appendAny ((Z.drop e).flatMap tnC) (sz:=2) (bytes:=16) (z:= .agg #[.int .i64 0,.int .i64 0]) (xs:=((Z.take e).flatMap tnC++tnC l)) (m0:=(e+1)) (o:=o72) (m:=(Z.length-e)) (pk:=[ownG 268 (((Z.take e).flatMap tnC++tnC l)) (o72)]) rfl rfl Tryz.underlying181 kr_ rfl om_ pk_ (by simp) ho72 (by rw[V.flatMap_len tnC_len,List.length_drop]) (fun hm0=>by obtain⟨b,off,h1,h2⟩:=hr2 om_;exact⟨b,off,h1,fun w hw=>h2 hw pk_⟩) (tnC_all _) om_ om_) ?_
     intro o77 ho77
     rw[e9,el9] at ho77⊢
     refine pA_ 9 ?_
     exact roundA ((i+1,Z.take e++l::Z.drop e,o77)) ⟨by simp only;omega,by simp only;rw[List.take_add_one,hl9];exact(Stb.Sta.app hk2 (Stb.Sta.refl [l])).trans (Stb.ins_sta Z e l he2),up_ins hk3 hx he2,ho77⟩ (by simp only;omega)
  ·replace h17:=bF h17
   have hx:∀x∈Z.take e,tnK x≤tnK l:=fun x hx=>by rw[show e=0 by omega] at hx;simp at hx
   obtain⟨pp,cp,hvp,hcp,hr1,hr2⟩:=own_srcP (e:=268) tnC_len om_ hk4 he1
   have e9:(Z.take e).flatMap tnC++tnC l++(Z.drop e).flatMap tnC=(Z.take e++l::Z.drop e).flatMap tnC:=by simp
   have el9:e+1+(Z.length-e)=(Z.take e++l::Z.drop e).length:=by simp only[List.length_append,List.length_take,List.length_cons,List.length_drop];omega
   refine pA_ 58 ?_
   refine LW.re 62 (.slice pp Z.length cp) rfl hvp<|Lv Mv<|Lv (Val.sliceG 0 e cp rfl Tryz.underlying181 Tryz.sizeOf268 rfl ⟨_,rfl⟩ rfl (fun h=>by cases h) om_ om_ om_)<|LW.re 64 (.slice pp e cp) rfl (sl0 _ _ _ _)<|Le (Eff.appendAny ((Z.take e).flatMap tnC) (sz:=2) (bytes:=16) (z:= .agg #[.int .i64 0,.int .i64 0]) (xs:=([]:List Value)) (m0:=0) (o:=none) (m:=e) (pk:=[ownG 268 (([]:List Value)) (none)]) rfl rfl Tryz.underlying181 kr_ rfl om_ pk_ (by simp) ⟨rfl,rfl⟩ (by rw[V.flatMap_len tnC_len,List.length_take,Nat.min_eq_left he1]) (fun hm0=>by obtain⟨b,off,h1,h2⟩:=hr1 om_;exact⟨b,off,h1,fun w hw=>h2 hw pk_⟩) (tnC_all _) om_ om_) fun o65 ho65=>?_
   simp only[List.nil_append,Nat.zero_add] at ho65⊢
   refine Lv Av<|Nl<|Ps<|Sq<|Rg<|Lv Mv<|Lv Mv<|LW.re 67 (.slice (some ⟨g,0,none⟩) L.length cap) rfl (by rfl)<|Lv Mv<|Lv (Val.indexAddrN (i:=i) rfl rfl Tryz.underlying181 Tryz.sizeOf268 om_)<|LW.re 69 (.pointer (some ⟨g,i*2,none⟩)) rfl (by simp)<|Lv (La (tnC l) (r:=(own_el tnC_len hl9 rest).choose) (hl:=(own_el tnC_len hl9 rest).choose_spec))<|Le (Eff.buildSlice (rfl) [_,_] Tryz.underlying181 Tryz.sizeOf268 (by exact Tryz.zeroValue268) rfl rfl rfl rfl (by rfl)) fun b71 _=>Le (Eff.appendAny (tnC l) (sz:=2) (bytes:=16) (z:= .agg #[.int .i64 0,.int .i64 0]) (xs:=(Z.take e).flatMap tnC) (m0:=e) (o:=o65) (m:=1) (pk:=[ownG 268 ((Z.take e).flatMap tnC) (o65)]) rfl rfl Tryz.underlying181 kr_ rfl om_ pk_ (by simp) ho65 (by rfl) (fun hm0=>⟨b71,0,rfl,fun w hw=>V.range_of_block (o:=0) (cs:=tnC l) (r:=[]) (hw.own _ (show InS (b71,.cells (tnC l).toArray 268 (0,0)) _ from in_).mem) rfl⟩) (by rfl) om_ om_) fun o72 ho72=>Lv Av<|Nl<|Ps<|Rg<|Lv Mv<|Lv Mv<|LW.re 74 (.slice pp Z.length cp) rfl hvp<|Lv Mv<|Lv (Val.sliceG e Z.length cp rfl Tryz.underlying181 Tryz.sizeOf268 ⟨_,rfl⟩ rfl rfl (fun _=>rfl) om_ om_ om_)<|Le (Eff.appendAny ((Z.drop e).flatMap tnC) (sz:=2) (bytes:=16) (z:= .agg #[.int .i64 0,.int .i64 0]) (xs:=((Z.take e).flatMap tnC++tnC l)) (m0:=(e+1)) (o:=o72) (m:=(Z.length-e)) (pk:=[ownG 268 (((Z.take e).flatMap tnC++tnC l)) (o72)]) rfl rfl Tryz.underlying181 kr_ rfl om_ pk_ (by simp) ho72 (by rw[V.flatMap_len tnC_len,List.length_drop]) (fun hm0=>by obtain⟨b,off,h1,h2⟩:=hr2 om_;exact⟨b,off,h1,fun w hw=>h2 hw pk_⟩) (tnC_all _) om_ om_) ?_
   intro o77 ho77
   rw[e9,el9] at ho77⊢
   refine pA_ 9 ?_
   exact roundA ((i+1,Z.take e++l::Z.drop e,o77)) ⟨by simp only;omega,by simp only;rw[List.take_add_one,hl9];exact(Stb.Sta.app hk2 (Stb.Sta.refl [l])).trans (Stb.ins_sta Z e l he2),up_ins hk3 hx he2,ho77⟩ (by simp only;omega)
 ·have hk9:k.1=L.length:=by omega
  obtain⟨i,Z,oz⟩:=k
  simp only at hk1 hk2 hk3 hk4 hk9
  subst hk9
  rw[List.take_length] at hk2
  refine pA_ 13 ?_
  exact fi_ (Z,oz) ⟨hk2,hk3,hk4⟩
end
section
attribute [local irreducible] V.CW V.LW V.QW V.RW V.PQ V.Val V.Eff V.Qcall
open V (str byC ownV ownG ownS ownOk)
instance:Cal Tryz.prog 174:=⟨Tryz.call174⟩
theorem tkC_all (l:List (Int×Int)):(l.flatMap tkC).all (·.oneCell')=true:=by
 rw[List.all_eq_true]
 intro v hv
 obtain⟨x,_,hx⟩:=List.mem_flatMap.1 hv
 have h8:∀v∈tkC x,v.oneCell'=true:=by intro v h;simp only[tkC,List.mem_cons,List.not_mem_nil,or_false] at h;rcases h with rfl|rfl<;>rfl
 exact h8 v hx
theorem rsorted0_g:Rz Tryz.prog 174 [.slice none 0 0] (.slice none 0 0):=by
 intro w
 refine Cb_ Tryz.func174 rfl Tryz.ntmps174<|pA_ 17 ?_
 refine loopA (γ:=Unit) (fun _=>[(0,.slice none 0 0),(3,.slice none 0 0),(4,.int .i64 0)]) (fun _=>[]) (fun _=>True) (fun _=>0) (()) trivial fun u _=>pA_ 7 ?_
 refine LW.re 10 (.bool false) rfl (by rfl)<|pA_ 16 ?_
 exact fb_
theorem rrooms_g (a:RAw)(x:DvR)(v:Dev)(th:Nat)(n e0:Int)(r:ROv)(hO:RaOk a r)(hn:r.tl.length≤1000∧r.q.length≤1000∧r.T.length≤100000)(hcl:(∀l∈r.tl,-1000000≤l.cls∧l.cls≤1000000)∧(∀l∈r.q,-1000000≤l.cls∧l.cls≤1000000)):Mo Tryz.prog 103 [.pointer (some ⟨a.ab,0,none⟩),.slice none 0 0] (raS a x.db th n e0 r (rvS3 x v)) (fun z:V.OwnO×List Tkn×V.OwnO=>Stb.Sta tnK ((r.tl++r.q).map lkT) z.2.1∧Stb.Up tnK z.2.1∧ownOk 2 r.T.length (r.T.flatMap tkC) z.1∧ownOk 2 z.2.1.length (z.2.1.flatMap tnC) z.2.2) (fun z=> .agg #[ownV r.T.length z.1,ownV z.2.1.length z.2.2,.slice none 0 0,.slice none 0 0,.slice none 0 0]) (fun z=>ownG 268 (r.T.flatMap tkC) z.1::ownG 268 (z.2.1.flatMap tnC) z.2.2::raS a x.db th n e0 r (rvS3 x v)):=by
 intro w hs
 obtain⟨ab,pb,rb,rl,cb,nb,bb,tb,po,tO,qO⟩:=a
 have hOt:ownOk 5 r.tl.length (r.tl.flatMap lkC) tO:=hO.t
 have hOq:ownOk 5 r.q.length (r.q.flatMap lkC) qO:=hO.q
 have hOp:ownOk 2 r.T.length (r.T.flatMap tkC) po:=hO.p
 clear hO
 obtain⟨pL,cL,hvL,_,_⟩:=own_slg (e:=165) lkC_len r.tl tO hOt
 obtain⟨pQ,cQ,hvQ,_,_⟩:=own_slg (e:=165) lkC_len r.q qO hOq
 obtain⟨pT,cT,hvT,hrT⟩:=own_srcG (e:=268) tkC_len om_ hOp
 refine Cs_ (raS ⟨ab,pb,rb,rl,cb,nb,bb,tb,po,tO,qO⟩ x.db th n e0 r (rvS3 x v)) Tryz.func103 rfl Tryz.ntmps103 hs<|Sq<|Rg<|Le AA fun b4 _=>pA_ 7 ?_
 refine Lv (Ld (v:= .pointer (some ⟨pb,0,none⟩)))<|Lv Nz<|Lv (Fa 1 181)<|Lv (Ld (v:=ownV r.T.length po))<|LW.re 15 (.slice pT r.T.length cT) rfl hvT<|Le (Eff.appendAny (r.T.flatMap tkC) (sz:=2) (bytes:=16) (z:= .agg #[.int .i64 0,.int .i64 0]) (xs:=([]:List Value)) (m0:=0) (o:=none) (m:=r.T.length) (pk:=[]) rfl rfl Tryz.underlying181 kr_ rfl om_ .nil (by rfl) ⟨rfl,rfl⟩ (by rw[V.flatMap_len tkC_len]) (fun hm0=>by obtain⟨b,hb,hr⟩:=hrT om_;exact⟨b,0,hb,fun w hw=>hr hw pk_⟩) (tkC_all _) om_ om_) fun o16 ho16=>?_
 simp only[List.nil_append,Nat.zero_add] at ho16⊢
 obtain⟨pk,ck,hvk,_,_⟩:=own_slg (e:=268) tkC_len r.T o16 ho16
 refine LW.re 16 (.slice pk r.T.length ck) rfl hvk<|Lv (Bd [.slice pk r.T.length ck,.slice none 0 0,.slice none 0 0,.slice none 0 0,.slice none 0 0])<|LW.re 17 (.agg #[ownV r.T.length o16,.slice none 0 0,.slice none 0 0,.slice none 0 0,.slice none 0 0]) rfl (by rw[hvk])<|Le AA fun b5 _=>LeN (StW (cs:=[ownV r.T.length o16,.slice none 0 0,.slice none 0 0,.slice none 0 0,.slice none 0 0]) (h1:=by simp only[List.all_cons,List.all_nil,V.ownV_one,Bool.and_true];rfl)) fun _ _=>pA_ 9 ?_
 refine nilSeg<|loopA (γ:=Nat×V.OwnO) (fun i=>[(0,.pointer (some ⟨ab,0,none⟩)),(1,.slice none 0 0),(4,.pointer (some ⟨b4,0,none⟩)),(5,.pointer (some ⟨b5,0,none⟩)),(6,.int .i64 (i.1:Nat))]) (fun i=>[(b5,.cells [ownV r.T.length o16,ownV (i.1) i.2,.slice none 0 0,.slice none 0 0,.slice none 0 0].toArray 183 (0,0))]::ownG 268 (((r.tl.take i.1).map lkT).flatMap tnC) i.2::ownG 268 (r.T.flatMap tkC) o16::[(b4,.cells [.slice none 0 0,.slice none 0 0,.slice none 0 0,.slice none 0 0,.slice none 0 0].toArray 183 (0,0))]::raS ⟨ab,pb,rb,rl,cb,nb,bb,tb,po,tO,qO⟩ x.db th n e0 r (rvS3 x v)) (fun i=>i.1≤r.tl.length∧ownOk 2 i.1 (((r.tl.take i.1).map lkT).flatMap tnC) i.2) (fun i=>r.tl.length-i.1) ((0,none)) ⟨Nat.zero_le _,rfl,rfl⟩ fun i=>?_
 rintro⟨hi1,hi2⟩
 refine pA_ 7 ?_
 refine Lv (Ld (v:= .pointer (some ⟨tb,0,none⟩)))<|Lv Nz<|Lv (Fa 0 159)<|Lv (Ld (v:=ownV r.tl.length tO))<|LW.re 25 (.slice pL r.tl.length cL) rfl hvL<|pA_ 4 ?_
 refine Cd_ rfl (fun h27=>?_) fun h27=>?_
 ·have hik:i.1<r.tl.length:=by omega
  obtain⟨l,hl⟩:∃l,r.tl[i.1]? =some l:=⟨r.tl[i.1]'hik,by simp⟩
  have hlc:=hcl.1 l (List.mem_of_getElem? hl)
  obtain⟨g,rest,cap,hoL,_⟩:=own_some3 hOt om_
  subst hoL
  have hpL:pL=some ⟨g,0,none⟩:=by
   have h8:ownV r.tl.length (some (g,rest,cap))= .slice (some ⟨g,0,none⟩) r.tl.length cap:=rfl
   rw[h8] at hvL
   injection hvL with h9
   exact h9.symm
  subst hpL
  have e9:((r.tl.take (i.1+1)).map lkT).flatMap tnC=((r.tl.take i.1).map lkT).flatMap tnC++[.int .i64 l.line,.int .i64 l.cls]:=by rw[List.take_add_one,hl,← tkOf_C hlc];simp[lkT]
  refine pA_ 4 ?_
  refine Dr ([[(ab,.cells (raC ⟨ab,pb,rb,rl,cb,nb,bb,tb,po,(some (g,rest,cap)),qO⟩ x.db r).toArray 162 (0,0))],[(tb,.cells [ownV r.tl.length (some (g,rest,cap))].toArray 192 (0,0))],ownG 165 (r.tl.flatMap lkC) (some (g,rest,cap))])<|pR_ [0,2,3,4] ?_
  refine Rv 5 rfl (Ld (v:= .pointer (some ⟨tb,0,none⟩)))<|pR_ [6,7] ?_
  refine Rv 8 rfl (Ld (v:=ownV r.tl.length (some (g,rest,cap))))<|RW.re 38 (.slice (some ⟨g,0,none⟩) r.tl.length cL) rfl hvL<|Rv 9 rfl Mv<|Rv 10 rfl (Val.indexAddrN (i:=i.1) rfl rfl Tryz.underlying159 Tryz.sizeOf165 om_)<|Rv 11 rfl (Fa 3 3)<|RW.re 41 (.pointer (some ⟨g,i.1*5+3,none⟩)) rfl (by simp)<|Rv 12 rfl (Ld (v:= .int .i64 l.line) (hl:=own_cell lkC_len hl rfl rest))<|pR_ [13,14,15] ?_
  refine Rv 16 rfl (Ld (v:= .pointer (some ⟨tb,0,none⟩)))<|pR_ [17,18] ?_
  refine Rv 19 rfl (Ld (v:=ownV r.tl.length (some (g,rest,cap))))<|RW.re 49 (.slice (some ⟨g,0,none⟩) r.tl.length cL) rfl hvL<|Rv 20 rfl Mv<|Rv 21 rfl (Val.indexAddrN (i:=i.1) rfl rfl Tryz.underlying159 Tryz.sizeOf165 om_)<|Rv 22 rfl (Fa 4 3)<|RW.re 52 (.pointer (some ⟨g,i.1*5+4,none⟩)) rfl (by simp)<|Rv 23 rfl (Ld (v:= .int .i64 l.cls) (hl:=own_cell lkC_len hl rfl rest))<|Rv 24 rfl (Bd ([.int .i64 l.line,.int .i64 l.cls]))<|V.RW.batchY [1,25] 25 55 [(1,31,_)] 3 rfl kr_ rfl rfl rfl rfl rfl (by simp) (by simp) ⟨_,rfl,rfl,rfl,Eff.buildSlice (rfl) [_,_] Tryz.underlying181 Tryz.sizeOf268 (by exact Tryz.zeroValue268) rfl rfl rfl rfl (by rfl)⟩ ⟨⟨_,rfl,rfl,rfl,Eff.ofVal (Ld (v:=ownV i.1 i.2))⟩,trivial⟩ (fun _ _=>⟨⟨_,rfl,rfl,rfl,Eff.ofVal (Ld (v:=ownV i.1 i.2))⟩,trivial⟩) ⟨_,pk_⟩ (fun _ _=>⟨_,pk_⟩) ?_
  intro b55 _
  refine Re 26 rfl (Eff.appendAny ([.int .i64 l.line,.int .i64 l.cls]) (sz:=2) (bytes:=16) (z:= .agg #[.int .i64 0,.int .i64 0]) (xs:=((r.tl.take i.1).map lkT).flatMap tnC) (m0:=i.1) (o:=i.2) (m:=1) (pk:=[ownG 268 (((r.tl.take i.1).map lkT).flatMap tnC) (i.2)]) rfl rfl Tryz.underlying181 kr_ rfl om_ pk_ (by simp) hi2 (by rfl) (fun hm0=>⟨b55,0,rfl,fun w hw=>V.range_of_block (o:=0) (cs:=[.int .i64 l.line,.int .i64 l.cls]) (r:=[]) (hw.own _ (show InS (b55,.cells ([.int .i64 l.line,.int .i64 l.cls]).toArray 268 (0,0)) _ from in_).mem) rfl⟩) (by rfl) om_ om_) fun o5 ho5=>Rv 27 rfl (Fa 1 181)<|ReN 28 rfl (Eff.store (l':=[ownV r.T.length o16,ownV (i.1+1) o5,.slice none 0 0,.slice none 0 0,.slice none 0 0]) rfl rfl (V.ownV_one _ _) up_ (by rfl) (by rfl) Tryz.sizeOf181) fun _ _=>Rd<|Bn<|Ps<|Rg<|Lv Mv<|Lv Ar<|Lv Av<|Nl ?_
  rw[← e9]
  exact roundA ((i.1+1,o5)) ⟨by simp only;omega,by simp only;rw[e9];exact ho5⟩ (by simp only;omega)
 ·obtain⟨i1,iO⟩:=i
  have hi9:i1=r.tl.length+0:=by simp only at hi1 h27;omega
  subst hi9
  replace hi2:ownOk 2 (r.tl.length+0) (((r.tl++r.q.take 0).map lkT).flatMap tnC) iO:=by have h8:=hi2;simp only[List.take_zero,List.append_nil];simpa using h8
  rw[show((r.tl.take (r.tl.length+0,iO).1).map lkT)=((r.tl++r.q.take 0).map lkT) by simp]
  refine pA_ 12 ?_
  refine loopA (γ:=Nat×V.OwnO) (fun j=>[(0,.pointer (some ⟨ab,0,none⟩)),(1,.slice none 0 0),(4,.pointer (some ⟨b4,0,none⟩)),(5,.pointer (some ⟨b5,0,none⟩)),(7,.int .i64 (j.1:Nat))]) (fun j=>[(b5,.cells [ownV r.T.length o16,ownV (r.tl.length+j.1) j.2,.slice none 0 0,.slice none 0 0,.slice none 0 0].toArray 183 (0,0))]::ownG 268 (((r.tl++r.q.take j.1).map lkT).flatMap tnC) j.2::ownG 268 (r.T.flatMap tkC) o16::[(b4,.cells [.slice none 0 0,.slice none 0 0,.slice none 0 0,.slice none 0 0,.slice none 0 0].toArray 183 (0,0))]::raS ⟨ab,pb,rb,rl,cb,nb,bb,tb,po,tO,qO⟩ x.db th n e0 r (rvS3 x v)) (fun j=>j.1≤r.q.length∧ownOk 2 (r.tl.length+j.1) (((r.tl++r.q.take j.1).map lkT).flatMap tnC) j.2) (fun j=>r.q.length-j.1) ((0,iO)) ⟨Nat.zero_le _,hi2⟩ fun j=>?_
  rintro⟨hj1,hj2⟩
  refine pA_ 7 ?_
  refine Lv (Ld (v:=ownV r.q.length qO))<|LW.re 62 (.slice pQ r.q.length cQ) rfl hvQ<|pA_ 4 ?_
  refine Cd_ rfl (fun h64=>?_) fun h64=>?_
  ·have hik:j.1<r.q.length:=by omega
   obtain⟨l,hl⟩:∃l,r.q[j.1]? =some l:=⟨r.q[j.1]'hik,by simp⟩
   have hlc:=hcl.2 l (List.mem_of_getElem? hl)
   obtain⟨g,rest,cap,hoL,_⟩:=own_some3 hOq om_
   subst hoL
   have hpL:pQ=some ⟨g,0,none⟩:=by
    have h8:ownV r.q.length (some (g,rest,cap))= .slice (some ⟨g,0,none⟩) r.q.length cap:=rfl
    rw[h8] at hvQ
    injection hvQ with h9
    exact h9.symm
   subst hpL
   have e9:((r.tl++r.q.take (j.1+1)).map lkT).flatMap tnC=((r.tl++r.q.take j.1).map lkT).flatMap tnC++[.int .i64 l.line,.int .i64 l.cls]:=by rw[List.take_add_one,hl,← tkOf_C hlc];simp[lkT]
   refine Sk<|Ps<|Sq<|Bk<|Dr ([[(ab,.cells (raC ⟨ab,pb,rb,rl,cb,nb,bb,tb,po,tO,(some (g,rest,cap))⟩ x.db r).toArray 162 (0,0))],ownG 165 (r.q.flatMap lkC) (some (g,rest,cap))])<|Rv 0 rfl (Fa 1 181)<|Rv 2 rfl Mv<|Rv 3 rfl Nz<|Rv 4 rfl (Fa 6 159)<|Rv 5 rfl (Ld (v:=ownV r.q.length (some (g,rest,cap))))<|RW.re 72 (.slice (some ⟨g,0,none⟩) r.q.length cQ) rfl hvQ<|Rv 6 rfl Mv<|Rv 7 rfl (Val.indexAddrN (i:=j.1) rfl rfl Tryz.underlying159 Tryz.sizeOf165 om_)<|Rv 8 rfl (Fa 3 3)<|RW.re 75 (.pointer (some ⟨g,j.1*5+3,none⟩)) rfl (by simp)<|Rv 9 rfl (Ld (v:= .int .i64 l.line) (hl:=own_cell lkC_len hl rfl rest))<|Rv 10 rfl Mv<|Rv 11 rfl Nz<|Rv 12 rfl (Fa 6 159)<|Rv 13 rfl (Ld (v:=ownV r.q.length (some (g,rest,cap))))<|RW.re 80 (.slice (some ⟨g,0,none⟩) r.q.length cQ) rfl hvQ<|Rv 14 rfl Mv<|Rv 15 rfl (Val.indexAddrN (i:=j.1) rfl rfl Tryz.underlying159 Tryz.sizeOf165 om_)<|Rv 16 rfl (Fa 4 3)<|RW.re 83 (.pointer (some ⟨g,j.1*5+4,none⟩)) rfl (by simp)<|Rv 17 rfl (Ld (v:= .int .i64 l.cls) (hl:=own_cell lkC_len hl rfl rest))<|Rv 18 rfl (Bd ([.int .i64 l.line,.int .i64 l.cls]))<|V.RW.batchY [1,19] 19 86 [(1,68,_)] 3 rfl kr_ rfl rfl rfl rfl rfl (by simp) (by simp) ⟨_,rfl,rfl,rfl,Eff.buildSlice (rfl) [_,_] Tryz.underlying181 Tryz.sizeOf268 (by exact Tryz.zeroValue268) rfl rfl rfl rfl (by rfl)⟩ ⟨⟨_,rfl,rfl,rfl,Eff.ofVal (Ld (v:=ownV (r.tl.length+j.1) j.2))⟩,trivial⟩ (fun _ _=>⟨⟨_,rfl,rfl,rfl,Eff.ofVal (Ld (v:=ownV (r.tl.length+j.1) j.2))⟩,trivial⟩) ⟨_,pk_⟩ (fun _ _=>⟨_,pk_⟩) fun b86 _=>Re 20 rfl (Eff.appendAny ([.int .i64 l.line,.int .i64 l.cls]) (sz:=2) (bytes:=16) (z:= .agg #[.int .i64 0,.int .i64 0]) (xs:=((r.tl++r.q.take j.1).map lkT).flatMap tnC) (m0:=(r.tl.length+j.1)) (o:=j.2) (m:=1) (pk:=[ownG 268 (((r.tl++r.q.take j.1).map lkT).flatMap tnC) (j.2)]) rfl rfl Tryz.underlying181 kr_ rfl om_ pk_ (by simp) hj2 (by rfl) (fun hm0=>⟨b86,0,rfl,fun w hw=>V.range_of_block (o:=0) (cs:=[.int .i64 l.line,.int .i64 l.cls]) (r:=[]) (hw.own _ (show InS (b86,.cells ([.int .i64 l.line,.int .i64 l.cls]).toArray 268 (0,0)) _ from in_).mem) rfl⟩) (by rfl) om_ om_) ?_
   intro o6 ho6
   refine Rv 21 rfl (Fa 1 181)<|ReN 22 rfl (Eff.store (l':=[ownV r.T.length o16,ownV (r.tl.length+j.1+1) o6,.slice none 0 0,.slice none 0 0,.slice none 0 0]) rfl rfl (V.ownV_one _ _) up_ (by rfl) (by rfl) Tryz.sizeOf181) fun _ _=>pA_ 8 ?_
   rw[← e9]
   exact roundA ((j.1+1,o6)) ⟨by simp only;omega,by simp only;rw[e9];exact ho6⟩ (by simp only;omega)
  ·have hj9:j.1=r.q.length:=by omega
   have hlt:((r.tl++r.q).map lkT).length=(r.tl.length+r.q.length):=by rw[List.length_map,List.length_append]
   have hj3:ownOk 2 ((r.tl++r.q).map lkT).length (((r.tl++r.q).map lkT).flatMap tnC) j.2:=by rw[hj9,List.take_length] at hj2;rw[hlt];exact hj2
   rw[hj9,List.take_length]
   refine pA_ 12 ?_
   refine loopA (γ:=Unit) (fun _=>[(0,.pointer (some ⟨ab,0,none⟩)),(1,.slice none 0 0),(4,.pointer (some ⟨b4,0,none⟩)),(5,.pointer (some ⟨b5,0,none⟩)),(8,.int .i64 0)]) (fun _=>[(b5,.cells [ownV r.T.length o16,ownV ((r.tl.length+r.q.length)) j.2,.slice none 0 0,.slice none 0 0,.slice none 0 0].toArray 183 (0,0))]::ownG 268 (((r.tl++r.q).map lkT).flatMap tnC) j.2::ownG 268 (r.T.flatMap tkC) o16::[(b4,.cells [.slice none 0 0,.slice none 0 0,.slice none 0 0,.slice none 0 0,.slice none 0 0].toArray 183 (0,0))]::raS ⟨ab,pb,rb,rl,cb,nb,bb,tb,po,tO,qO⟩ x.db th n e0 r (rvS3 x v)) (fun _=>True) (fun _=>0) (()) trivial fun u _=>pA_ 7 ?_
   refine Lv (Ld (v:= .pointer (some ⟨bb,0,none⟩)))<|Lv Nz<|Lv (Fa 0 198)<|Lv (Ld (v:= .slice none 0 0))<|Lv Ln<|Lv Cm<|LW.re 98 (.bool false) rfl (by rfl)<|pA_ 11 ?_
   refine Lv (Ld (v:=ownV (r.tl.length+r.q.length) j.2))<|LW.re 159 (ownV ((r.tl++r.q).map lkT).length j.2) rfl (by rw[hlt])<|Le (Cm_ (rsorted_g ((r.tl++r.q).map lkT) j.2 hj3 om_)) fun z1 hz1=>Lv (Fa 1 181)<|LeN (Eff.store (l':=[ownV r.T.length o16,ownV (z1.1.length) z1.2,.slice none 0 0,.slice none 0 0,.slice none 0 0]) rfl rfl (V.ownV_one _ _) up_ (by rfl) (by rfl) Tryz.sizeOf181) fun _ _=>pA_ 5 ?_
   refine Lv (Ld (v:= .slice none 0 0))<|Le (Cz_ rsorted0_g) fun _ _=>Lv (Fa 2 181)<|LeN (Eff.store (l':=[ownV r.T.length o16,ownV (z1.1.length) z1.2,.slice none 0 0,.slice none 0 0,.slice none 0 0]) rfl rfl rfl up_ (by rfl) (by rfl) Tryz.sizeOf181) ?_
   intro _ _
   refine Nl<|Ps<|Sq<|Rg<|Lv (Fa 3 181)<|Lv (Ld (v:= .slice none 0 0))<|Le (Cz_ rsorted0_g) fun _ _=>Lv (Fa 3 181)<|LeN (Eff.store (l':=[ownV r.T.length o16,ownV (z1.1.length) z1.2,.slice none 0 0,.slice none 0 0,.slice none 0 0]) rfl rfl rfl up_ (by rfl) (by rfl) Tryz.sizeOf181) fun _ _=>Nl<|Ps<|Sq<|Rg<|Lv Mv<|Le (Cz_ rsorted0_g) fun _ _=>Lv (Fa 4 181)<|LeN (Eff.store (l':=[ownV r.T.length o16,ownV (z1.1.length) z1.2,.slice none 0 0,.slice none 0 0,.slice none 0 0]) rfl rfl rfl up_ (by rfl) (by rfl) Tryz.sizeOf181) fun _ _=>Nl<|Ps<|Sq<|Rg<|Lv (Lw (l:=[ownV r.T.length o16,ownV (z1.1.length) z1.2,.slice none 0 0,.slice none 0 0,.slice none 0 0]))<|LeN (StW (cs:=[ownV r.T.length o16,ownV (z1.1.length) z1.2,.slice none 0 0,.slice none 0 0,.slice none 0 0]) (h1:=by simp only[List.all_cons,List.all_nil,V.ownV_one,Bool.and_true];rfl)) fun _ _=>Nl<|Ps<|Rt<|PQ.retC (l:=[ownV r.T.length o16,ownV (z1.1.length) z1.2,.slice none 0 0,.slice none 0 0,.slice none 0 0]) rfl rfl in_ Tryz.isAgg183 (by exact Tryz.sizeOf183) ?_
   exact fi_ (o16,z1.1,z1.2) ⟨hz1.1,hz1.2.1,ho16,hz1.2.2⟩
end
end G
end Go.Proofs.YteejleakfbnpcaaGreat
namespace Go.Proofs.YteejleakfbnpcaaGreat
open Go Go.RowKit V
set_option linter.unusedVariables false
set_option maxRecDepth 100000
set_option maxHeartbeats 1000000
namespace G
section
attribute [local irreducible] V.CW V.LW V.QW V.RW V.PQ V.Val V.Eff V.Qcall
open V (str byC ownV ownG ownS ownOk)
theorem places259:∀w,((Array.mapM (fun(f:Field)=>do pure (f.offset,← sizeOf f.type)) (Tryz.prog.fieldsOf 259):Sem (Array (Nat×Nat)))).run Tryz.prog w= .ok [(0,1),(1,1),(2,1),(3,1),(4,1),(5,1),(6,1)].toArray w:=by
 intro w;kernel_rfl
instance:Plc Tryz.prog 259 (fOf Tryz.underlying259) (lOf (P:=Tryz.prog) places259):=⟨places259,Tryz.underlying259⟩
instance:Cal Tryz.prog 170:=⟨Tryz.call170⟩
theorem sameLinks_c (l:List Lk)(hl:l.length≤100000)(p q:Option Addr)(c d:Nat)(w:World)(ha:V.slAt w p 5 lkC l)(hb:V.slAt w q 5 lkC l):Calls Tryz.prog 106 [.slice p l.length c,.slice q l.length d].toArray w fun e w'=>e= .returned (.bool true)∧Below w.heap.size w w':=by
 refine Cb_ Tryz.func106 rfl Tryz.ntmps106<|pA_ 13 ?_
 refine LW.re 10 (.bool false) rfl (by simp)<|pA_ 12 ?_
 refine loopA (γ:=Nat) (fun k=>[(0,.slice p l.length c),(1,.slice q l.length d),(5,.int .i64 (k:Nat))]) (fun _=>[]) (fun k=>k≤l.length) (fun k=>l.length-k) (0) (Nat.zero_le _) fun k hk1=>pA_ 9 ?_
 refine Cd_ rfl (fun h14=>?_) fun h14=>?_
 ·have hk9:k<l.length:=by omega
  obtain⟨bb1,o1,y,rfl,hb1,hy,hr1⟩:=V.slAt_at ha rfl (k:=k) hk9
  obtain⟨bb2,o2,y2,rfl,hb2,hy2,hr2⟩:=V.slAt_at hb rfl (k:=k) hk9
  obtain rfl:y=y2:=by rw[hy] at hy2;exact Option.some.inj hy2
  refine pA_ 5 ?_
  refine Qt<|pA_ 3 ?_
  refine Qv (Val.loadOA (cs:=lkC y) rfl Tryz.isAgg165 hb1 (by simp[ids]) (hr1 k y hy) (by exact Tryz.sizeOf165))<|pA_ 3 ?_
  refine Qv (Val.loadOA (cs:=lkC y) rfl Tryz.isAgg165 hb2 (by simp[ids]) (hr2 k y hy) (by exact Tryz.sizeOf165))<|Qv (Val.neA rfl rfl kr_ Tryz.underlying165 kr_ (by exact(.str rfl rfl Tryz.isAgg9 Tryz.underlying9 (.int rfl rfl Tryz.isAgg22 Tryz.underlying22 (.int rfl rfl Tryz.isAgg22 Tryz.underlying22 (.int rfl rfl Tryz.isAgg3 Tryz.underlying3 (.int rfl rfl Tryz.isAgg3 Tryz.underlying3 .nil)))))))<|QW.re 25 (.bool false) rfl (by simp)<|pA_ 11 ?_
  exact roundA (k+1) om_ om_
 ·refine pA_ 12 ?_
  exact fb_
theorem sameInts_c (l:List Int)(hl:l.length≤100000)(p q:Option Addr)(c d:Nat)(w:World)(ha:V.slAt w p 1 inI l)(hb:V.slAt w q 1 inI l):Calls Tryz.prog 116 [.slice p l.length c,.slice q l.length d].toArray w fun e w'=>e= .returned (.bool true)∧Below w.heap.size w w':=by
 refine Cb_ Tryz.func116 rfl Tryz.ntmps116<|pA_ 13 ?_
 refine LW.re 10 (.bool false) rfl (by simp)<|pA_ 12 ?_
 refine loopA (γ:=Nat) (fun k=>[(0,.slice p l.length c),(1,.slice q l.length d),(5,.int .i64 (k:Nat))]) (fun _=>[]) (fun k=>k≤l.length) (fun k=>l.length-k) (0) (Nat.zero_le _) fun k hk1=>pA_ 9 ?_
 refine Cd_ rfl (fun h14=>?_) fun h14=>?_
 ·have hk9:k<l.length:=by omega
  obtain⟨bb1,o1,y,rfl,hb1,hy,hr1⟩:=V.slAt_at ha rfl (k:=k) hk9
  obtain⟨bb2,o2,y2,rfl,hb2,hy2,hr2⟩:=V.slAt_at hb rfl (k:=k) hk9
  obtain rfl:y=y2:=by rw[hy] at hy2;exact Option.some.inj hy2
  refine pA_ 5 ?_
  refine Qt<|pA_ 3 ?_
  refine Qv (Val.loadO rfl Tryz.isAgg3 hb1 (by simp[ids]) (hr1 k y hy 0 _ rfl))<|pA_ 3 ?_
  refine Qv (Val.loadO rfl Tryz.isAgg3 hb2 (by simp[ids]) (hr2 k y hy 0 _ rfl))<|Qv Cm<|QW.re 25 (.bool false) rfl (by simp)<|pA_ 11 ?_
  exact roundA (k+1) om_ om_
 ·refine pA_ 12 ?_
  exact fb_
theorem sameEntries0_c (p q:Option Addr)(c d:Nat):Rz Tryz.prog 113 [.slice p 0 c,.slice q 0 d] (.bool true):=by
 intro w
 refine Cb_ Tryz.func113 rfl Tryz.ntmps113<|pA_ 13 ?_
 refine LW.re 10 (.bool false) rfl (by rfl)<|pA_ 12 ?_
 refine loopA (γ:=Unit) (fun _=>[(0,.slice p 0 c),(1,.slice q 0 d),(5,.int .i64 0)]) (fun _=>[]) (fun _=>True) (fun _=>0) (()) trivial fun u _=>pA_ 7 ?_
 refine LW.re 14 (.bool false) rfl (by rfl)<|pA_ 15 ?_
 exact fb_
theorem sameEffects0_c (p q:Option Addr)(c d:Nat):Rz Tryz.prog 98 [.slice p 0 c,.slice q 0 d] (.bool true):=by
 intro w
 refine Cb_ Tryz.func98 rfl Tryz.ntmps98<|pA_ 13 ?_
 refine LW.re 10 (.bool false) rfl (by rfl)<|pA_ 12 ?_
 refine loopA (γ:=Unit) (fun _=>[(0,.slice p 0 c),(1,.slice q 0 d),(5,.int .i64 0)]) (fun _=>[]) (fun _=>True) (fun _=>0) (()) trivial fun u _=>pA_ 7 ?_
 refine LW.re 14 (.bool false) rfl (by rfl)<|pA_ 15 ?_
 exact fb_
theorem slAt_nil {α:Type}{w:World}{p:Option Addr}{sz:Nat}{enc:α→List Value}:V.slAt w p sz enc []:= .inl rfl
def tnP (y:Tkn):Int×Int:=(y.line,y.cls)
theorem slAt_tn {w:World}{p:Option Addr}{l:List Tkn}(h:V.slAt w p 2 tnC l):V.slAt w p 2 tkC (l.map tnP):=by
 rcases h with rfl|⟨b,o,hp,hb,h⟩
 ·exact .inl rfl
 ·refine .inr ⟨b,o,hp,hb,fun i x hx=>?_⟩
  rw[List.getElem?_map] at hx
  obtain⟨y,hy,rfl⟩:=Option.map_eq_some_iff.1 hx
  exact h i y hy
theorem sameRooms_c (T L:List (Int×Int))(hT:T.length≤100000)(hL:L.length≤100000)(p1 p2 p3 p4 p5 q1 q2:Option Addr)(c1 c2 c3 c4 c5 d1 d2:Nat)(w:World)(h1:V.slAt w p1 2 tkC T)(h2:V.slAt w p2 2 tkC L)(h3:V.slAt w q1 2 tkC T)(h4:V.slAt w q2 2 tkC L):Calls Tryz.prog 101 [.agg #[.slice p1 T.length c1,.slice p2 L.length c2,.slice p3 0 c3,.slice p4 0 c4,.slice p5 0 c5],.agg #[.slice q1 T.length d1,.slice q2 L.length d2,.slice none 0 0,.slice none 0 0,.slice none 0 0]].toArray w fun e w'=>e= .returned (.bool true)∧Below w.heap.size w w':=by
 refine Cb_ Tryz.func101 rfl Tryz.ntmps101<|Sq<|Rg<|Le XA fun b2 _=>Le XA fun b3 _=>pA_ 6 ?_
 refine Lv (Ld (v:= .slice p1 T.length c1))<|Lv (Fa 0 181)<|Lv (Ld (v:= .slice q1 T.length d1))<|Le (CV fun w hw=>sameTaken_c T hT p1 q1 c1 d1 w (hw.slAt h1 (by simp[ids])) (hw.slAt h3 (by simp[ids]))) fun _ _=>Lv Mv<|Lv (Fa 1 181)<|Lv (Ld (v:= .slice p2 L.length c2))<|Lv (Fa 1 181)<|Lv (Ld (v:= .slice q2 L.length d2))<|Le (CV fun w hw=>sameTaken_c L hL p2 q2 c2 d2 w (hw.slAt h2 (by simp[ids])) (hw.slAt h4 (by simp[ids]))) fun _ _=>pA_ 3 ?_
 refine Lv (Ld (v:= .slice p3 0 c3))<|Lv (Fa 2 181)<|Lv (Ld (v:= .slice none 0 0))<|Le (CV fun w hw=>sameTaken_c [] (Nat.zero_le _) p3 none c3 0 w slAt_nil slAt_nil) fun _ _=>pA_ 3 ?_
 refine Lv (Ld (v:= .slice p4 0 c4))<|Lv (Fa 3 181)<|Lv (Ld (v:= .slice none 0 0))<|Le (CV fun w hw=>sameTaken_c [] (Nat.zero_le _) p4 none c4 0 w slAt_nil slAt_nil) fun _ _=>pA_ 3 ?_
 refine Lv (Ld (v:= .slice p5 0 c5))<|Lv (Fa 4 181)<|Lv (Ld (v:= .slice none 0 0))<|Le (CV fun w hw=>sameTaken_c [] (Nat.zero_le _) p5 none c5 0 w slAt_nil slAt_nil) fun _ _=>pA_ 6 ?_
 exact fb_
theorem pr_one2 (y:List UInt8×List UInt8):(prC y).all (·.oneCell')=true:=rfl
theorem tx_spl {l:List (List UInt8)}{i:Nat}{x:List UInt8}{r:List Value}(h:i<l.length):V.splice (l.flatMap txC++r) i [str x]=(l.set i x).flatMap txC++r:=by
 have e1:l=l.take i++l[i]::l.drop (i+1):=by rw[← List.drop_eq_getElem_cons h,List.take_append_drop]
 have e2:l.set i x=l.take i++x::l.drop (i+1):=List.set_eq_take_append_cons_drop.trans (by rw[if_pos h])
 have e3:((l.take i).flatMap txC).length=i:=by rw[V.flatMap_len txC_len,List.length_take,Nat.min_eq_left (Nat.le_of_lt h)];omega
 rw[e2]
 conv=>lhs;rw[e1]
 simp only[V.splice,List.flatMap_append,List.flatMap_cons,List.append_assoc]
 rw[List.set_append_right _ _ om_,e3,Nat.sub_self]
 rfl
theorem overEf0_c (o:V.OwnO)(ho:ownOk 7 0 (([]:List Eft).flatMap efC) o):Mo Tryz.prog 104 [ownV 0 o] [ownG 259 (([]:List Eft).flatMap efC) o] (fun _u:Unit=>True) (fun _=> .tuple #[]) (fun _=>[]):=by
 intro w hs
 obtain⟨pe,ce,hve,_,_⟩:=own_slg (e:=259) efC_len ([]:List Eft) o ho
 refine Ca_ Tryz.func104 rfl Tryz.ntmps104 hs<|Sq<|Sq<|Rg<|Lv Av<|Nl<|Ps<|Bk<|loopA (γ:=Unit) (fun _=>[(0,ownV 0 o),(2,.int .i64 0)]) (fun _=>[ownG 259 (([]:List Eft).flatMap efC) o]) (fun _=>True) (fun _=>0) (()) trivial fun u _=>Sq<|Sq<|Rg<|Lv Mv<|Lv Mv<|LW.re 4 (.slice pe 0 ce) rfl hve<|Lv Ln<|Lv Cm<|LW.re 6 (.bool false) rfl (by rfl)<|Nl<|Ps<|Cf<|Xt<|Te<|Te<|Bh<|Ps<|Rg<|Lv Mv<|Lv (Bd (efC ⟨-8,[],[],0,0,0,0⟩))<|Le (Eff.buildSlice (rfl) [_,_,_,_,_,_,_] Tryz.underlying160 Tryz.sizeOf259 (by exact Tryz.zeroValue259) rfl rfl rfl rfl (by rfl)) fun b15 _=>Le (Eff.appendAny (efC ⟨-8,[],[],0,0,0,0⟩) (sz:=7) (bytes:=72) (z:= .agg #[.int .i64 0,.string ⟨#[]⟩,.string ⟨#[]⟩,.int .u64 0,.int .u64 0,.int .u64 0,.int .i64 0]) (xs:=([]:List Eft).flatMap efC) (m0:=0) (o:=o) (m:=1) (pk:=[ownG 259 (([]:List Eft).flatMap efC) (o)]) rfl rfl Tryz.underlying160 kr_ rfl om_ pk_ (by simp) ho (by rfl) (fun hm0=>⟨b15,0,rfl,fun w hw=>V.range_of_block (o:=0) (cs:=efC ⟨-8,[],[],0,0,0,0⟩) (r:=[]) (hw.own _ (show InS (b15,.cells (efC ⟨-8,[],[],0,0,0,0⟩).toArray 259 (0,0)) _ from in_).mem) rfl⟩) (by rfl) om_ om_) fun _ _=>Nl<|PQ.end0 rfl ?_
 intro w' hw;exact⟨(),trivial,rfl,hw.pick .nil⟩
theorem overShelf_c (P:List (List UInt8×List UInt8))(Q:List (List UInt8))(o1 o2:V.OwnO)(h1:ownOk 2 P.length (P.flatMap prC) o1)(h2:ownOk 1 Q.length (Q.flatMap txC) o2)(hP:P.length≤100000)(hQ:Q.length≤100000):Mo Tryz.prog 105 [.agg #[ownV P.length o1,ownV Q.length o2]] [ownG 263 (P.flatMap prC) o1,ownG 9 (Q.flatMap txC) o2] (fun _u:Unit=>True) (fun _=> .tuple #[]) (fun _=>[]):=by
 intro w hs
 obtain⟨p1,c1,hv1,_,_⟩:=own_slg (e:=263) prC_len P o1 h1
 obtain⟨p2,c2,hv2,_,_⟩:=own_slg (e:=9) txC_len Q o2 h2
 refine Ca_ Tryz.func105 rfl Tryz.ntmps105 hs<|Sq<|Rg<|Le XA fun b1 _=>pA_ 9 ?_
 refine loopA (γ:=Nat×List (List UInt8×List UInt8)) (fun i=>[(1,.pointer (some ⟨b1,0,none⟩)),(2,.int .i64 (i.1:Nat))]) (fun i=>[(b1,.cells [ownV P.length o1,ownV Q.length o2].toArray 176 (0,0))]::[ownG 263 (i.2.flatMap prC) o1,ownG 9 (Q.flatMap txC) o2]) (fun i=>i.1≤P.length∧i.2.length=P.length) (fun i=>P.length-i.1) ((0,P)) ⟨Nat.zero_le _,rfl⟩ fun i=>?_
 rintro⟨hi1,hi2⟩
 refine pA_ 5 ?_
 refine Lv (Ld (v:=ownV P.length o1))<|LW.re 6 (.slice p1 P.length c1) rfl hv1<|pA_ 4 ?_
 refine Cd_ rfl (fun h8=>?_) fun h8=>?_
 ·have hi9:i.1<P.length:=by omega
  obtain⟨g,gr,gc,hog,_⟩:=own_some3 h1 om_
  subst hog
  have hpL:p1=some ⟨g,0,none⟩:=by
   have h8:ownV P.length (some (g,gr,gc))= .slice (some ⟨g,0,none⟩) P.length gc:=rfl
   rw[h8] at hv1
   injection hv1 with h9
   exact h9.symm
  subst hpL
  refine pA_ 6 ?_
  refine Lv (Ld (v:=ownV P.length (some (g,gr,gc))))<|LW.re 12 (.slice (some ⟨g,0,none⟩) P.length c1) rfl hv1<|Lv Mv<|Lv (Bd (prC ([111,118,101,114],[])))<|Lv (Val.indexAddrN (i:=i.1) rfl rfl Tryz.underlying173 Tryz.sizeOf263 om_)<|LeN (Eff.storeFl (enc:=prC) (sz:=2) (y:=([111,118,101,114],[])) (l:=i.2) rfl rfl up_ prC_len om_ Tryz.sizeOf263 pr_one2) fun _ _=>pA_ 8 ?_
  exact roundA ((i.1+1,i.2.set i.1 ([111,118,101,114],[]))) ⟨by simp only;omega,by simp only;rw[List.length_set];exact hi2⟩ (by simp only;omega)
 ·refine pA_ 11 ?_
  refine loopA (γ:=Nat×List (List UInt8)) (fun j=>[(1,.pointer (some ⟨b1,0,none⟩)),(3,.int .i64 (j.1:Nat))]) (fun j=>[(b1,.cells [ownV P.length o1,ownV Q.length o2].toArray 176 (0,0))]::[ownG 263 (i.2.flatMap prC) o1,ownG 9 (j.2.flatMap txC) o2]) (fun j=>j.1≤Q.length∧j.2.length=Q.length) (fun j=>Q.length-j.1) ((0,Q)) ⟨Nat.zero_le _,rfl⟩ fun j=>?_
  rintro⟨hj1,hj2⟩
  refine pA_ 5 ?_
  refine Lv (Ld (v:=ownV Q.length o2))<|LW.re 18 (.slice p2 Q.length c2) rfl hv2<|pA_ 4 ?_
  refine Cd_ rfl (fun h20=>?_) fun h20=>?_
  ·have hi9:j.1<Q.length:=by omega
   obtain⟨g,gr,gc,hog,_⟩:=own_some3 h2 om_
   subst hog
   have hpL:p2=some ⟨g,0,none⟩:=by
    have h8:ownV Q.length (some (g,gr,gc))= .slice (some ⟨g,0,none⟩) Q.length gc:=rfl
    rw[h8] at hv2
    injection hv2 with h9
    exact h9.symm
   subst hpL
   refine pA_ 6 ?_
   refine Lv (Ld (v:=ownV Q.length (some (g,gr,gc))))<|LW.re 24 (.slice (some ⟨g,0,none⟩) Q.length c2) rfl hv2<|Lv Mv<|Lv (Val.indexAddrN (i:=j.1) rfl rfl Tryz.underlying174 Tryz.sizeOf9 om_)<|LW.re 26 (.pointer (some ⟨g,j.1,none⟩)) rfl (by simp)<|LeN (Eff.storeX (v:=str [111,118,101,114]) (l:=j.2.flatMap txC++gr) (l':=(j.2.set j.1 [111,118,101,114]).flatMap txC++gr) rfl rfl rfl up_ (tx_spl om_) (by rw[List.length_append,V.flatMap_len txC_len];omega) Tryz.sizeOf9) fun _ _=>pA_ 8 ?_
   exact roundA ((j.1+1,j.2.set j.1 [111,118,101,114])) ⟨by simp only;omega,by simp only;rw[List.length_set];exact hj2⟩ (by simp only;omega)
  ·refine pA_ 4 ?_
   refine PQ.end0 rfl ?_
   intro w' hw;exact⟨(),trivial,rfl,hw.pick .nil⟩
end
section
attribute [local irreducible] V.CW V.LW V.QW V.RW V.PQ V.Val V.Eff V.Qcall
open V (str byC ownV ownG ownS ownOk)
structure Alk (th:Nat)(e0:Int)(s:ArS)(r:ROv):Prop where
 id:s.id=r.id
 ver:s.ver=r.ver
 T:tkL s.L s.L.length=r.T
 q:rgQ s.rg=r.q
 t:∀L:List Lk,L.Perm (tLinks s.Tz)→UpL L→L=r.tl
 o:odL0 s.Lz=r.tl
 o9:r.tl.length≤900
 ef:s.ef=[]
 bg:s.bg=[]
 rd:s.rd.now=1
 ck:s.ck.now=e0+1∧s.ck.dur=e0∧s.ck.owed=List.replicate th 0
 st:tStp s.Tz
 n:(tLinks s.Tz).length≤1000∧r.tl.length≤1000∧r.q.length≤1000∧s.L.length≤32∧r.T.length≤100000
 b1:∀l∈tLinks s.Tz,(-1000000≤l.line∧l.line≤1000000)∧(-1000000≤l.cls∧l.cls≤1000000)
 b2:∀l∈r.tl,(-1000000≤l.line∧l.line≤1000000)∧(-1000000≤l.cls∧l.cls≤1000000)
 b3:∀l∈r.q,(-1000000≤l.line∧l.line≤1000000)∧(-1000000≤l.cls∧l.cls≤1000000)
theorem aeff0_g (x:ArR)(s:ArS)(hk:ownOk 7 s.ef.length (s.ef.flatMap efC) s.eo)(th:Nat)(e0:Int)(r:ROv)(hK:Alk th e0 s r)(w:World)(hs:Sat ([(x.a,.cells (arC x s).toArray 256 (0,0))]::[ownG 259 (s.ef.flatMap efC) s.eo]) w):Calls Tryz.prog 96 [.pointer (some ⟨x.a,0,none⟩)].toArray w fun e w'=>∃o:V.OwnO,ownOk 7 ([]:List Eft).length (([]:List Eft).flatMap efC) o∧e= .returned (ownV ([]:List Eft).length o)∧Hp ⟨w,V.ids (([(x.a,.cells (arC x s).toArray 256 (0,0))]::[ownG 259 (s.ef.flatMap efC) s.eo]))⟩ (ownG 259 (([]:List Eft).flatMap efC) o::([(x.a,.cells (arC x s).toArray 256 (0,0))]::[ownG 259 (s.ef.flatMap efC) s.eo])) w':=by
 refine Calls.mono (aeffects_g x s hk (by rw[hK.ef];simp) w hs) fun e w' h=>?_
 obtain⟨o,h1,h2,h3⟩:=h
 have hE:s.ef=([]:List Eft):=hK.ef
 have e9:ownG 259 (s.ef.flatMap efC) o=ownG 259 (([]:List Eft).flatMap efC) o:=by rw[hE]
 rw[e9] at h3
 rw[hE] at h1 h2
 exact⟨o,h1,h2,h3⟩
theorem oall0_g (ob:Nat)(s:ArS)(h4:s.Lz.length=4)(hO:∀p∈s.Lz,lvOk p)(th:Nat)(e0:Int)(r:ROv)(hK:Alk th e0 s r)(w:World)(hs:Sat (odS ob s.Lz) w):Calls Tryz.prog 110 [.pointer (some ⟨ob,0,none⟩)].toArray w fun e w'=>∃o:V.OwnO,ownOk 5 r.tl.length (r.tl.flatMap lkC) o∧e= .returned (ownV r.tl.length o)∧Hp ⟨w,V.ids ((odS ob s.Lz))⟩ (ownG 165 (r.tl.flatMap lkC) o::(odS ob s.Lz)) w':=by
 refine Calls.mono (oall_g ob s.Lz h4 hO (by rw[hK.o];exact hK.o9) w hs) fun e w' h=>?_
 obtain⟨o,h1,h2,h3⟩:=h
 have hE:(odL0 s.Lz)=r.tl:=hK.o
 have e9:ownG 165 ((odL0 s.Lz).flatMap lkC) o=ownG 165 (r.tl.flatMap lkC) o:=by rw[hE]
 rw[e9] at h3
 rw[hE] at h1 h2
 exact⟨o,h1,h2,h3⟩
theorem lall0_g (fb:Nat)(s:ArS)(hr:rgO s.rg s.ro)(th:Nat)(e0:Int)(r:ROv)(hK:Alk th e0 s r)(w:World)(hs:Sat (rgS 288 fb s.rg s.ro) w):Calls Tryz.prog 112 [.pointer (some ⟨fb,0,none⟩)].toArray w fun e w'=>∃o:V.OwnO,ownOk 5 r.q.length (r.q.flatMap lkC) o∧e= .returned (ownV r.q.length o)∧Hp ⟨w,V.ids ((rgS 288 fb s.rg s.ro))⟩ (ownG 165 (r.q.flatMap lkC) o::(rgS 288 fb s.rg s.ro)) w':=by
 refine Calls.mono (lall_c fb s.rg s.ro hr w hs) fun e w' h=>?_
 obtain⟨o,h1,h2,h3⟩:=h
 have hE:(rgQ s.rg)=r.q:=hK.q
 have e9:ownG 165 ((rgQ s.rg).flatMap lkC) o=ownG 165 (r.q.flatMap lkC) o:=by rw[hE]
 rw[e9] at h3
 rw[hE] at h1 h2
 exact⟨o,h1,h2,h3⟩
theorem ball0_g (b:Nat)(s:ArS)(hk:ownOk 5 s.bg.length (s.bg.flatMap enC) s.bo)(th:Nat)(e0:Int)(r:ROv)(hK:Alk th e0 s r)(w:World)(hs:Sat (bgS b s.bg s.bo) w):Calls Tryz.prog 115 [.pointer (some ⟨b,0,none⟩)].toArray w fun e w'=>∃o:V.OwnO,ownOk 5 ([]:List Ent).length (([]:List Ent).flatMap enC) o∧e= .returned (ownV ([]:List Ent).length o)∧Hp ⟨w,V.ids ((bgS b s.bg s.bo))⟩ (ownG 270 (([]:List Ent).flatMap enC) o::(bgS b s.bg s.bo)) w':=by
 refine Calls.mono (ball_g b s.bo s.bg hk (by rw[hK.bg];simp) w hs) fun e w' h=>?_
 obtain⟨o,h1,h2,h3⟩:=h
 have hE:s.bg=([]:List Ent):=hK.bg
 have e9:ownG 270 (s.bg.flatMap enC) o=ownG 270 (([]:List Ent).flatMap enC) o:=by rw[hE]
 rw[e9] at h3
 rw[hE] at h1 h2
 exact⟨o,h1,h2,h3⟩
theorem kOwed0_g (cb wb:Nat)(s:ArS)(th:Nat)(e0:Int)(r:ROv)(hK:Alk th e0 s r)(ht:th≤100)(w:World)(hs:Sat (ckS cb wb s.ck) w):Calls Tryz.prog 118 [.pointer (some ⟨cb,0,none⟩)].toArray w fun e w'=>∃o:V.OwnO,ownOk 1 (List.replicate th (0:Int)).length ((List.replicate th (0:Int)).flatMap inI) o∧e= .returned (ownV (List.replicate th (0:Int)).length o)∧Hp ⟨w,V.ids ((ckS cb wb s.ck))⟩ (ownG 3 ((List.replicate th (0:Int)).flatMap inI) o::(ckS cb wb s.ck)) w':=by
 refine Calls.mono (kOwed_g cb wb s.ck (by rw[hK.ck.2.2,List.length_replicate];exact ht) w hs) fun e w' h=>?_
 obtain⟨o,h1,h2,h3⟩:=h
 have hE:s.ck.owed=(List.replicate th (0:Int)):=hK.ck.2.2
 have e9:ownG 3 (s.ck.owed.flatMap inI) o=ownG 3 ((List.replicate th (0:Int)).flatMap inI) o:=by rw[hE]
 rw[e9] at h3
 rw[hE] at h1 h2
 exact⟨o,h1,h2,h3⟩
theorem tall0_g (tb:Nat)(ms:List Nat)(s:ArS)(hT:tbOk ms s.Tz)(th:Nat)(e0:Int)(r:ROv)(hK:Alk th e0 s r):Mo Tryz.prog 108 [.pointer (some ⟨tb,0,none⟩)] (tbS tb ms s.Tz) (fun o:V.OwnO=>ownOk 5 r.tl.length (r.tl.flatMap lkC) o) (fun o=>ownV r.tl.length o) (fun o=>ownG 165 (r.tl.flatMap lkC) o::tbS tb ms s.Tz):=by
 intro w hs
 refine Calls.mono (all_g tb ms s.Tz hT hK.st hK.n.1 w hs) fun e w' h=>?_
 obtain⟨⟨o,L⟩,⟨h0,h1,h4⟩,h2,h3⟩:=h
 obtain rfl:L=r.tl:=hK.t L h0 h1
 exact⟨o,h4,h2,h3⟩
theorem ashelf0_g (x:ArR)(s:ArS)(xd:DvR)(D:List Ce)(k:Cnt)(th:Nat)(e0:Int)(r:ROv)(hK:Alk th e0 s r)(hA:ArOk th D.length x s):Mo Tryz.prog 97 [.pointer (some ⟨x.a,0,none⟩)] (arS x s xd.db++dvS xd D k) (fun y:V.OwnO×V.OwnO=>ownOk 2 (pairsOf D r.tl).length ((pairsOf D r.tl).flatMap prC) y.1∧ownOk 1 (textsOf D r.q).length ((textsOf D r.q).flatMap txC) y.2) (fun y=> .agg #[ownV (pairsOf D r.tl).length y.1,ownV (textsOf D r.q).length y.2]) (fun y=>ownG 263 ((pairsOf D r.tl).flatMap prC) y.1::ownG 9 ((textsOf D r.q).flatMap txC) y.2::arS x s xd.db++dvS xd D k):=by
 intro w hs
 refine Calls.mono (ashelf_g x s xd D k th hA hK.st hK.n.1 (by rw[hK.q];exact hK.n.2.2.1) ⟨fun l h=>(hK.b1 l h).1,fun l h=>(hK.b3 l (by rw[← hK.q];exact h)).1⟩ w hs) fun e w' h=>?_
 obtain⟨⟨L,o1,o2⟩,⟨⟨h0,h1⟩,h4,h5⟩,h2,h3⟩:=h
 obtain rfl:L=r.tl:=hK.t L h0 h1
 have e9:ownG 9 ((textsOf D (rgQ s.rg)).flatMap txC) o2=ownG 9 ((textsOf D r.q).flatMap txC) o2:=by rw[hK.q]
 simp only at h2 h3 h4 h5
 rw[e9] at h3
 rw[hK.q] at h2 h5
 exact⟨(o1,o2),⟨h4,h5⟩,h2,h3⟩
theorem sta_nil {L:List Tkn}(h:Stb.Sta tnK [] L):L=[]:=List.eq_nil_of_length_eq_zero h.1
theorem own0 {e:Nat}(o:V.OwnO)(h:ownOk 2 0 (([]:List Tkn).flatMap tnC) o):∃p:Option Addr×Nat,ownV 0 o= .slice p.1 0 p.2:=by
 obtain⟨p,c,hv,_⟩:=own_slg (e:=e) tnC_len ([]:List Tkn) o h
 exact⟨(p,c),hv⟩
theorem arooms0_g (x:ArR)(s:ArS)(db n:Nat)(th:Nat)(e0:Int)(r:ROv)(hK:Alk th e0 s r)(hA:ArOk th n x s)(w:World)(hs:Sat (arS x s db) w):Calls Tryz.prog 102 [.pointer (some ⟨x.a,0,none⟩),.slice none 0 0].toArray w fun e w'=>∃y:V.OwnO×(List Tkn×V.OwnO)×(Option Addr×Nat)×(Option Addr×Nat)×(Option Addr×Nat),(Stb.Sta tnK ((r.tl++r.q).map lkT) y.2.1.1∧Stb.Up tnK y.2.1.1∧ownOk 2 r.T.length (r.T.flatMap tkC) y.1∧ownOk 2 y.2.1.1.length (y.2.1.1.flatMap tnC) y.2.1.2)∧e= .returned (.agg #[ownV r.T.length y.1,ownV y.2.1.1.length y.2.1.2,.slice y.2.2.1.1 0 y.2.2.1.2,.slice y.2.2.2.1.1 0 y.2.2.2.1.2,.slice y.2.2.2.2.1 0 y.2.2.2.2.2])∧Hp ⟨w,[]⟩ [ownG 268 (r.T.flatMap tkC) y.1,ownG 268 (y.2.1.1.flatMap tnC) y.2.1.2] w':=by
 refine Calls.mono (arooms_g x s db th n hA hK.st hK.n.1 (by rw[hK.q];exact hK.n.2.2.1) (by rw[hK.bg];simp) hK.n.2.2.2.1 (fun l h=>(hK.b1 l h).2) (fun l h=>(hK.b3 l (by rw[← hK.q];exact h)).2) (by rw[hK.bg];simp) [] none 0 (Nat.zero_le _) w (.inl rfl) (by simp) hs) fun e w' h=>?_
 obtain⟨⟨A,L1,L2,L3,L4,o0,o1,o2,o3,o4⟩,h1,h2,h3⟩:=h
 obtain rfl:A=r.tl:=hK.t A h1.a.1 h1.a.2
 have q1:=h1.l1;have q2:=h1.l2.1;have q3:=h1.l3.1;have q4:=h1.l4.1
 have k0:=h1.k0;have k1:=h1.k1;have k2:=h1.k2;have k3:=h1.k3;have k4:=h1.k4
 simp only[hK.bg,List.map_nil,List.filter_nil] at q2 q3 q4
 obtain rfl:=sta_nil q2
 obtain rfl:=sta_nil q3
 obtain rfl:=sta_nil q4
 simp only at q1 k0 k1 k2 k3 k4
 rw[hK.q] at q1
 rw[hK.T] at k0
 obtain⟨p2,e2⟩:=own0 (e:=268) o2 k2
 obtain⟨p3,e3⟩:=own0 (e:=268) o3 k3
 obtain⟨p4,e4⟩:=own0 (e:=268) o4 k4
 refine⟨(o0,(L1,o1),p2,p3,p4),⟨q1.1,q1.2,k0,k1⟩,?_,?_⟩
 ·rw[h2]
  unfold rmV
  simp only[List.length_nil,hK.T,e2,e3,e4]
 ·have h8:Hp ⟨w,[]⟩ [ownG 268 ((tkL s.L s.L.length).flatMap tkC) o0,ownG 268 (L1.flatMap tnC) o1] w':=h3.pick pk_
  rw[hK.T] at h8
  exact h8
end
end G
end Go.Proofs.YteejleakfbnpcaaGreat
