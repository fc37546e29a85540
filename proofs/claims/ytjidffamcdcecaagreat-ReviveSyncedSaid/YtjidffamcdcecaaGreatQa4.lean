import Derived.Test.YtjidffamcdcecaaGreatQa3
/- What the law leans on, part 4. -/
namespace Go.Proofs.YtjidffamcdcecaaGreat
open Go Go.RowKit V
set_option linter.unusedVariables false
set_option maxRecDepth 100000
set_option maxHeartbeats 1000000
namespace G
section
attribute [local irreducible] V.CW V.LW V.QW V.RW V.PQ V.Val V.Eff V.Qcall
open V (str byC ownV ownG ownS ownOk)
instance:Cal Tryz.prog 105:=⟨Tryz.call105⟩
instance:Cal Tryz.prog 106:=⟨Tryz.call106⟩
theorem rscrub_g (rb:Nat)(x:DvR)(v:Dev)(r:Rvl)(hr:RvOk r)(hn:r.nx≤r.fd.length)(hL:v.D.length≤1000):Mo Tryz.prog 81 [.pointer (some ⟨rb,0,none⟩)] (rvS rb x.db r++vS x v) (fun _u:Unit=>True) (fun _=> .int .i64 0) (fun _=>rvS rb x.db (wpR (scrubF r.e r.fd) r 4)++vS x (wpV (scrubF r.e r.fd) v r)):=by
 intro w hs
 refine Ca_ Tryz.func81 rfl Tryz.ntmps81 hs<|Sq<|Rg<|Le XS fun b1 _=>pA_ 5 ?_
 refine Lv (Ld (v:= .pointer (some ⟨rb,0,none⟩)))<|Lv Mf<|Le (Cm_ (wipeS_g b1 rb x v r hr hn hL 4)) fun _ _=>pA_ 5 ?_
 exact fi_ () trivial
theorem rantis_g (rb:Nat)(x:DvR)(v:Dev)(r:Rvl)(hr:RvOk r)(hn:r.nx≤r.fd.length)(hL:v.D.length≤1000):Mo Tryz.prog 82 [.pointer (some ⟨rb,0,none⟩)] (rvS rb x.db r++vS x v) (fun _u:Unit=>True) (fun _=> .int .i64 0) (fun _=>rvS rb x.db (wpR (antiF r.e) r 5)++vS x (wpV (antiF r.e) v r)):=by
 intro w hs
 refine Ca_ Tryz.func82 rfl Tryz.ntmps82 hs<|pA_ 9 ?_
 refine Lv Mf<|Le (Cm_ (wipeA_g rb x v r hr hn hL 5)) fun _ _=>pA_ 5 ?_
 exact fi_ () trivial
def decK (e:Int)(fd:List Fnd):List Fnd:=fd.filter (keepF e fd)
def decR (n:Nat)(r:Rvl)(o:V.OwnO):Rvl:=if ovE n (decK r.e r.fd)=0 then {r with kp:=decK r.e r.fd,ko:=o,ph:=3,nx:=0} else r
theorem filt_yes {q:Fnd→Bool}{l:List Fnd}{j:Nat}{f:Fnd}(hf:l[j]? =some f)(h:q f=true):(l.take (j+1)).filter q=(l.take j).filter q++[f]:=by
 rw[List.take_add_one,hf,Option.toList_some,List.filter_append,List.filter_cons_of_pos (by exact h)];rfl
theorem filt_no {q:Fnd→Bool}{l:List Fnd}{j:Nat}{f:Fnd}(hf:l[j]? =some f)(h:q f=false):(l.take (j+1)).filter q=(l.take j).filter q:=by
 rw[List.take_add_one,hf,Option.toList_some,List.filter_append,List.filter_cons_of_neg (by rw[h];decide)];simp
theorem filt_le (q:Fnd→Bool)(l:List Fnd)(j:Nat):((l.take j).filter q).length≤l.length:=by
 have h1:=List.length_filter_le q (l.take j)
 have h2:=List.length_take_le j l
 rw[List.length_take] at h1;omega
theorem over_r (xd:DvR)(D:List Ce)(k:Cnt)(hD:10≤D.length∧D.length≤1000)(th:Nat)(h1:1≤th)(h4:th≤4)(e0:Int)(he:0≤e0∧e0≤1152921504606846976)(Fs:List Fnd)(p:Option Addr)(cp:Nat)(hF:Fs.length≤800)(hk:∀f∈Fs,fdOk f)(w:World)(hp:V.slAt w p 9 fdC Fs)(hpd:∀b o,p=some ⟨b,o,none⟩→b∉V.ids (dvS xd D k))(hs:Sat (dvS xd D k) w):Calls Tryz.prog 105 [.pointer (some ⟨xd.db,0,none⟩),.int .i64 (th:Nat),.int .u64 e0,.slice p Fs.length cp].toArray w fun e w'=>∃r:Option (ArR×ArS),OvP th D.length e0 Fs r∧e= .returned (.tuple #[ovV r,.int .i64 (ovE D.length Fs)])∧Hp ⟨w,V.ids (dvS xd D k)⟩ (dvS xd D k) w':=by
 refine(over_g xd D k hD th h1 h4 e0 he Fs p cp hF hk w hp hpd hs).mono fun e w' ⟨q,hq,he,hw⟩=>⟨q,hq,he,?_⟩
 rcases q with _|q
 ·exact hw
 ·exact hw.pick (ss:=dvS xd D k) pk_
theorem own_notF {B:V.Base}{sg r:V.Sg}{w:World}{l:List Fnd}{y:V.OwnO}{p:Option Addr}{c:Nat}{x:DvR}{v:Dev}(hw:Hp B sg w)(hv:ownV l.length y= .slice p l.length c)(hp:Pick (ownG 146 (l.flatMap fdC) y::vS x v) sg r):∀b o,p=some ⟨b,o,none⟩→b∉V.ids (vS x v):=by
 intro b o hb
 rcases y with _|⟨g,r2,cap⟩
 ·have h8:ownV l.length none= .slice none 0 0:=rfl
  rw[h8] at hv
  injection hv with h9
  rw[hb] at h9;cases h9
 ·have h8:ownV l.length (some (g,r2,cap))= .slice (some ⟨g,0,none⟩) l.length cap:=rfl
  rw[h8] at hv
  injection hv with h9
  rw[hb] at h9
  simp only[Option.some.injEq,Addr.mk.injEq] at h9
  rw[← h9.1]
  exact not_in (hw.pick hp) (show Pick (vS x v) _ _ from pk_) (show InS (g,.cells (l.flatMap fdC++r2).toArray 146 (0,0)) _ from in_)
theorem rdecide_g (rb:Nat)(x:DvR)(v:Dev)(r:Rvl)(hr:RvOk r)(hL:10≤v.D.length∧v.D.length≤1000)(th:Nat)(h1:1≤th)(h4:th≤4)(hth:r.th=(th:Nat))(he:0≤r.e∧r.e≤1152921504606846976)(w:World)(hs:Sat (rvS rb x.db r++vS x v) w):Calls Tryz.prog 80 [.pointer (some ⟨rb,0,none⟩)].toArray w fun e w'=>∃o:V.OwnO,(ownOk 9 (decR v.D.length r o).kp.length ((decR v.D.length r o).kp.flatMap fdC) (decR v.D.length r o).ko)∧e= .returned (.int .i64 (ovE v.D.length (decK r.e r.fd)))∧Hp ⟨w,V.ids ((rvS rb x.db r++vS x v))⟩ ((rvS rb x.db (decR v.D.length r o)++vS x v)) w':=by
 have hfl:=hr.fl
 obtain⟨ps,cs,hvs,_⟩:=own_slF r.fd r.fo hr.fd
 refine Cs_ (rvS rb x.db r++vS x v) Tryz.func80 rfl Tryz.ntmps80 hs<|pA_ 16 ?_
 refine Lv (Ld (v:=ownV r.fd.length r.fo))<|LW.re 11 (.slice ps r.fd.length cs) rfl hvs<|pA_ 5 ?_
 refine V.CW.perm (sg':=[]::(rvS rb x.db r++vS x v)) ?_ (.refl _)
 refine loopA (γ:=Nat×V.OwnO) (fun j=>[(0,.pointer (some ⟨rb,0,none⟩)),(3,ownV ((r.fd.take j.1).filter (keepF r.e r.fd)).length j.2),(11,.slice ps r.fd.length cs),(12,.int .i64 (r.fd.length:Nat)),(13,.int .i64 (j.1:Nat))]) (fun j=>ownG 146 (((r.fd.take j.1).filter (keepF r.e r.fd)).flatMap fdC) j.2::(rvS rb x.db r++vS x v)) (fun j=>j.1≤r.fd.length∧ownOk 9 ((r.fd.take j.1).filter (keepF r.e r.fd)).length (((r.fd.take j.1).filter (keepF r.e r.fd)).flatMap fdC) j.2) (fun j=>r.fd.length-j.1) ((0,none)) ⟨Nat.zero_le _,rfl,rfl⟩ fun j=>?_
 rintro⟨hj1,hj2⟩
 have hkl:=filt_le (keepF r.e r.fd) r.fd j.1
 refine pA_ 6 ?_
 refine Cd_ rfl (fun h14=>?_) fun h14=>?_
 ·obtain⟨f,hf⟩:∃f,r.fd[j.1]? =some f:=⟨r.fd[j.1]'om_,by simp⟩
  obtain⟨g,rest,cap,hfo⟩:∃g r2 c,r.fo=some (g,r2,c):=by
   rcases hfo:r.fo with _|⟨g,r2,c⟩
   ·have:=hr.fd;rw[hfo] at this;exact absurd this.2 om_
   ·exact⟨g,r2,c,rfl⟩
  obtain⟨q2,hq2⟩:=flk9_at (rest:=rest) hf
  have hps:ps=some ⟨g,0,none⟩:=by
   rw[hfo] at hvs
   have h8:ownV r.fd.length (some (g,rest,cap))= .slice (some ⟨g,0,none⟩) r.fd.length cap:=rfl
   rw[h8] at hvs
   injection hvs with h9
   exact h9.symm
  have hsg:ownG 146 (r.fd.flatMap fdC) r.fo=[(g,.cells (r.fd.flatMap fdC++rest).toArray 146 (0,0))]:=by rw[hfo];rfl
  refine V.CW.perm (sg':=ownG 146 (((r.fd.take j.1).filter (keepF r.e r.fd)).flatMap fdC) j.2::[rvO rb x.db r]::[(g,.cells (r.fd.flatMap fdC++rest).toArray 146 (0,0))]::ownG 146 (r.kp.flatMap fdC) r.ko::vS x v) ?_ (.of_eq (congrArg (fun z:V.Seg=>(ownG 146 (((r.fd.take j.1).filter (keepF r.e r.fd)).flatMap fdC) j.2::[rvO rb x.db r]::z::ownG 146 (r.kp.flatMap fdC) r.ko::vS x v:Sg).flatten) hsg))
  subst hps
  refine pA_ 6 ?_
  refine Lv (Val.indexAddrN (i:=j.1) rfl rfl Tryz.underlying60 Tryz.sizeOf146 om_)<|Lv (La (fdC f) (hl:=hq2))<|Le AA fun b5 _=>LeN StW fun _ _=>pA_ 5 ?_
  refine Lv (Lw (l:=fdC f))<|Le (CV fun w hw=>keeps_g rb x.db r hr f w (by have h8:=hw.sat.pick (ss:=[rvO rb x.db r]::[(g,.cells (r.fd.flatMap fdC++rest).toArray 146 (0,0))]::[ownG 146 (r.kp.flatMap fdC) r.ko]) pk_;rw[← hsg] at h8;exact h8)) fun _ _=>Nl<|Ps ?_
  refine Cd_ rfl (fun h19=>?_) fun h19=>?_
  ·have h19:keepF r.e r.fd f=true:=h19
   refine Rg<|Lv Mv<|Lv (Lw (l:=fdC f))<|Le (Eff.buildSlice (rfl) [_,_,_,_,_,_,_,_,_] Tryz.underlying60 Tryz.sizeOf146 (by exact Tryz.zeroValue146) rfl rfl rfl rfl (by rfl)) fun b22 _=>Le (Eff.appendAny (fdC f) (sz:=9) (bytes:=88) (z:= .agg #[.int .i64 0,.bool false,.int .i64 0,.int .i64 0,.int .u64 0,.int .u64 0,.int .u64 0,.string ⟨#[]⟩,.string ⟨#[]⟩]) (xs:=((r.fd.take j.1).filter (keepF r.e r.fd)).flatMap fdC) (m0:=((r.fd.take j.1).filter (keepF r.e r.fd)).length) (o:=j.2) (m:=1) (pk:=[ownG 146 (((r.fd.take j.1).filter (keepF r.e r.fd)).flatMap fdC) (j.2)]) rfl rfl Tryz.underlying60 kr_ rfl om_ pk_ (by simp) hj2 (by rfl) (fun hm0=>⟨b22,0,rfl,fun w hw=>V.range_of_block (o:=0) (cs:=fdC f) (r:=[]) (hw.own _ (show InS (b22,.cells (fdC f).toArray 146 (0,0)) _ from in_).mem) rfl⟩) (by rfl) om_ om_) fun o2 ho2=>Lv Av<|Nl<|Bn<|Ps<|Rg<|Lv Ar<|Lv Mv<|Nl ?_
   rw[← hsg]
   rw[← show((r.fd.take (j.1+1)).filter (keepF r.e r.fd)).flatMap fdC=((r.fd.take j.1).filter (keepF r.e r.fd)).flatMap fdC++fdC f by rw[filt_yes hf h19,List.flatMap_append,List.flatMap_singleton]]
   refine PQ.round ((j.1+1,o2)) ⟨by simp only;omega,by simp only;rw[filt_yes hf h19,List.length_append,List.length_singleton,List.flatMap_append,List.flatMap_singleton];exact ho2⟩ (by simp only;omega) (by exact⟨rfl,congrArg (fun z=>some (ownV z o2)) (by simp only;rw[filt_yes hf h19,List.length_append,List.length_singleton]),rfl,rfl,rfl,trivial⟩) pk_
  ·have h19:keepF r.e r.fd f=false:=h19
   refine pA_ 7 ?_
   rw[← hsg]
   rw[← show((r.fd.take (j.1+1)).filter (keepF r.e r.fd))=((r.fd.take j.1).filter (keepF r.e r.fd)) from filt_no hf h19]
   refine PQ.round ((j.1+1,j.2)) ⟨by simp only;omega,by simp only;rw[filt_no hf h19];exact hj2⟩ (by simp only;omega) (by exact⟨rfl,congrArg (fun z=>some (ownV z j.2)) (by first|(simp only;done)|(simp only;rw[filt_no hf h19])),rfl,rfl,rfl,trivial⟩) pk_
 ·obtain⟨j1,o⟩:=j
  have hj9:j1=r.fd.length:=by simp only at hj1 h14;omega
  subst hj9
  replace hj2:ownOk 9 (decK r.e r.fd).length ((decK r.e r.fd).flatMap fdC) o:=by have h8:=hj2;simp only[List.take_length] at h8;exact h8
  rw[show(r.fd.take (r.fd.length,o).1).filter (keepF r.e r.fd)=decK r.e r.fd by unfold decK;rw[List.take_length]]
  obtain⟨pd,cd,hvd,hsd⟩:=own_slF (decK r.e r.fd) o hj2
  refine pA_ 7 ?_
  refine Dr ([[rvO rb x.db r]])<|pR_ [0,1,2] ?_
  refine Rv 3 rfl (Ld (v:= .pointer (some ⟨x.db,0,none⟩)))<|pR_ [4,5,6] ?_
  refine Rv 7 rfl (Ld (v:= .int .i64 r.th))<|RW.re 33 (.int .i64 (th:Nat)) rfl (by rw[hth])<|pR_ [8,9,10] ?_
  refine Rv 11 rfl (Ld (v:= .int .u64 r.e))<|Rv 12 rfl Mv<|RW.re 38 (.slice pd (decK r.e r.fd).length cd) rfl hvd<|Re 13 rfl (CM (dvS x v.D v.k) fun w hw hs0=>over_r x v.D v.k hL th h1 h4 r.e he (decK r.e r.fd) pd cd (by have:=filt_le (keepF r.e r.fd) r.fd r.fd.length;rw[List.take_length] at this;unfold decK;omega) (fun f hf=>hr.tx f (List.mem_filter.1 hf).1) w (hsd hw pk_) (own_notF hw hvd (show Pick (ownG 146 ((decK r.e r.fd).flatMap fdC) o::vS x v) _ _ from pk_)) hs0) fun q hq=>pR_ [14,15,16,17,18] ?_
  refine pA_ 8 ?_
  refine Cd_ rfl (fun h43=>?_) fun h43=>?_
  ·obtain rfl:q=none:=by
    rcases q with _|q
    ·rfl
    ·have h8:=hq.ok;rw[decide_eq_false h43] at h8;cases h8
   refine pA_ 9 ?_
   have e8:∀o,decR v.D.length r o=r:=fun o=>by unfold decR;exact if_neg h43
   intro w' hw;exact⟨none,by rw[e8];exact hr.kp,rfl,by rw[e8];exact hw.pick pk_⟩
  ·have h44:ovE v.D.length (decK r.e r.fd)=0:=by simpa using h43
   obtain⟨q,rfl⟩:∃y,q=some y:=by
    rcases q with _|q
    ·have h8:=hq.ok;rw[decide_eq_true h44] at h8;cases h8
    ·exact⟨q,rfl⟩
   refine pA_ 8 ?_
   refine LeN (Eff.store (l':=rvC x.db {r with kp:=(decK r.e r.fd),ko:=o}) rfl rfl (V.ownV_one _ _) up_ (by rfl) (by rfl) Tryz.sizeOf60) fun _ _=>pA_ 5 ?_
   refine Le (Cm_ (to_g rb x.db {r with kp:=(decK r.e r.fd),ko:=o} 3)) fun _ _=>pA_ 5 ?_
   have e8:decR v.D.length r o={r with kp:=decK r.e r.fd,ko:=o,ph:=3,nx:=0}:=by unfold decR;exact if_pos h44
   rw[h44]
   intro w' hw;exact⟨o,by rw[e8];exact hj2,rfl,by rw[e8];exact hw.pick pk_⟩
end
end G
end Go.Proofs.YtjidffamcdcecaaGreat
namespace Go.Proofs.YtjidffamcdcecaaGreat
open Go Go.RowKit V
set_option linter.unusedVariables false
set_option maxRecDepth 100000
namespace G
section
attribute [local irreducible] V.CW V.LW V.QW V.RW V.PQ V.Val V.Eff V.Qcall
open V (str byC ownV ownG ownS ownOk)
instance:Cal Tryz.prog 59:=⟨Tryz.call59⟩
instance:Cal Tryz.prog 84:=⟨Tryz.call84⟩
instance:Cal Tryz.prog 85:=⟨Tryz.call85⟩
instance:Cal Tryz.prog 111:=⟨Tryz.call111⟩
def OvA (th n:Nat)(e0:Int)(Fs:List Fnd)(y:ArR×ArS):Prop:=OvP th n e0 Fs (some y)
theorem over_ok (xd:DvR)(D:List Ce)(k:Cnt)(hD:10≤D.length∧D.length≤1000)(th:Nat)(h1:1≤th)(h4:th≤4)(e0:Int)(he:0≤e0∧e0≤1152921504606846976)(Fs:List Fnd)(p:Option Addr)(cp:Nat)(hF:Fs.length≤800)(hk:∀f∈Fs,fdOk f)(hE:ovE D.length Fs=0)(w:World)(hp:V.slAt w p 9 fdC Fs)(hpd:∀b o,p=some ⟨b,o,none⟩→b∉V.ids (dvS xd D k))(hs:Sat (dvS xd D k) w):Calls Tryz.prog 105 [.pointer (some ⟨xd.db,0,none⟩),.int .i64 (th:Nat),.int .u64 e0,.slice p Fs.length cp].toArray w fun e w'=>∃y:ArR×ArS,OvA th D.length e0 Fs y∧e= .returned (.tuple #[.pointer (some ⟨y.1.a,0,none⟩),.int .i64 0])∧Hp ⟨w,V.ids (dvS xd D k)⟩ (arS y.1 y.2 xd.db++dvS xd D k) w':=by
 refine(over_g xd D k hD th h1 h4 e0 he Fs p cp hF hk w hp hpd hs).mono fun e w' ⟨q,hq,he,hw⟩=>?_
 rcases q with _|q
 ·have h8:=hq.ok
  rw[decide_eq_true hE] at h8;cases h8
 ·rw[hE] at he
  exact⟨q,hq,he,hw⟩
set_option maxHeartbeats 1600000 in
theorem rebF_g (pb rb:Nat)(x:DvR)(v:Dev)(r:Rvl)(hr:ownOk 9 r.kp.length (r.kp.flatMap fdC) r.ko)(hk:r.kp.length≤800∧∀f∈r.kp,fdOk f)(hE:ovE v.D.length r.kp=0)(hL:10≤v.D.length∧v.D.length≤1000)(th:Nat)(h1:1≤th)(h4:th≤4)(hth:r.th=(th:Nat))(he:0≤r.e∧r.e≤1152921504606846976)(dn m1:Int):Mo Tryz.prog 109 [.pointer (some ⟨pb,0,none⟩)] ([(pb,.cells [.pointer (some ⟨rb,0,none⟩)].toArray 45 (0,0))]::(rvS rb x.db {r with dn:=dn,m1:=m1}++vS x v)) (fun y:ArR×ArS=>OvA th v.D.length r.e r.kp y) (fun _=> .tuple #[]) (fun y=>[(pb,.cells [.pointer (some ⟨rb,0,none⟩)].toArray 45 (0,0))]::(rvS rb x.db {r with dn:=dn,m1:=m1,st:= .pointer (some ⟨y.1.a,0,none⟩),why:=0}++(arS y.1 y.2 x.db++vS x v))):=by
 intro w hs
 obtain⟨pd,cd,hvd,hsd⟩:=own_slF r.kp r.ko hr
 refine Ca_ Tryz.func109 rfl Tryz.ntmps109 hs<|Dr ([[(pb,.cells [.pointer (some ⟨rb,0,none⟩)].toArray 45 (0,0))]])<|Rv 0 rfl (Ld (v:= .pointer (some ⟨rb,0,none⟩)))<|Rv 1 rfl (Ld (v:= .pointer (some ⟨rb,0,none⟩)))<|Rv 2 rfl (Ld (v:= .pointer (some ⟨rb,0,none⟩)))<|pR_ [3,4] ?_
 refine Rv 6 rfl (Ld (v:= .pointer (some ⟨rb,0,none⟩)))<|pR_ [7,8] ?_
 refine Rv 10 rfl (Ld (v:= .pointer (some ⟨rb,0,none⟩)))<|pR_ [11,12] ?_
 refine Rv 14 rfl (Ld (v:= .pointer (some ⟨rb,0,none⟩)))<|pR_ [15,16] ?_
 refine RW.batch [(5,7,_),(9,11,_),(13,15,_),(17,19,_)] 10 rfl kr_ rfl rfl (by simp) (by simp) ⟨⟨_,rfl,rfl,rfl,Eff.ofVal (Ld (v:= .pointer (some ⟨x.db,0,none⟩)))⟩,⟨_,rfl,rfl,rfl,Eff.ofVal (Ld (v:= .int .i64 r.th))⟩,⟨_,rfl,rfl,rfl,Eff.ofVal (Ld (v:= .int .u64 r.e))⟩,⟨_,rfl,rfl,rfl,Eff.ofVal (Ld (v:=ownV r.kp.length r.ko))⟩,trivial⟩ ⟨_,pk_⟩<|RW.re 11 (.int .i64 (th:Nat)) rfl (by rw[hth])<|RW.re 19 (.slice pd r.kp.length cd) rfl hvd<|Re 18 rfl (CM (dvS x v.D v.k) fun w hw hs0=>over_ok x v.D v.k hL th h1 h4 r.e he r.kp pd cd hk.1 hk.2 hE w (hsd hw pk_) (own_notF hw hvd (show Pick (ownG 146 (r.kp.flatMap fdC) r.ko::vS x v) _ _ from pk_)) hs0) fun y hy=>pR_ [19,20,21,22,23] ?_
 refine ReN 24 rfl StS fun _ _=>pR_ [25,26] ?_
 refine ReN 27 rfl StS ?_
 intro _ _
 refine Rd<|PQ.end0 rfl ?_
 exact fi_ y hy
theorem slow_g (pb rb:Nat)(x:DvR)(v:Dev)(r:Rvl)(hr:ownOk 9 r.kp.length (r.kp.flatMap fdC) r.ko)(hk:r.kp.length≤800∧∀f∈r.kp,fdOk f)(hE:ovE v.D.length r.kp=0)(hL:10≤v.D.length∧v.D.length≤1000)(th:Nat)(h1:1≤th)(h4:th≤4)(hth:r.th=(th:Nat))(he:0≤r.e∧r.e≤1152921504606846976):Mo Tryz.prog 85 [.pointer (some ⟨rb,7,none⟩),.func (.func 109) #[] #[.pointer (some ⟨pb,0,none⟩)]] ([(pb,.cells [.pointer (some ⟨rb,0,none⟩)].toArray 45 (0,0))]::(rvS rb x.db {r with dn:=0,m1:=0}++vS x v)) (fun y:ArR×ArS=>OvA th v.D.length r.e r.kp y) (fun _=> .tuple #[]) (fun y=>[(pb,.cells [.pointer (some ⟨rb,0,none⟩)].toArray 45 (0,0))]::(rvS rb x.db {r with dn:=1,m1:=0,st:= .pointer (some ⟨y.1.a,0,none⟩),why:=0}++(arS y.1 y.2 x.db++vS x v))):=by
 intro w hs
 refine V.callsDf ([(pb,.cells [.pointer (some ⟨rb,0,none⟩)].toArray 45 (0,0))]::(rvS rb x.db {r with dn:=0,m1:=0}++vS x v)) Tryz.func85 rfl Tryz.ntmps85 (Nat.le_of_ble_eq_true rfl) hs<|pA_ 5 ?_
 refine Le (CM ([[rvO rb x.db {r with dn:=0,m1:=0}]]) fun w hw hs=>lock_c rb 8 (rvC x.db {r with dn:=0,m1:=0}) 130 w rfl hs) fun _ _=>pA_ 7 ?_
 refine LW.dfr rfl rfl<|CD.seq<|CD.region<|pA_ 3 ?_
 refine Le (CV fun w hw=>bLoad_c 0 rb 7 (rvC x.db {r with dn:=0,m1:=1}) 130 w rfl hw.pk.sat) fun _ _=>Lv Nt<|Nl<|PQ.seqD<|CD.cond_t rfl<|CD.seq<|CD.region<|pA_ 3 ?_
 refine LW.dfr2 rfl rfl<|CD.region<|Lv Mv<|Le (Eff.callFM (f:=109) (caps:=[.pointer (some ⟨pb,0,none⟩)]) ([(pb,.cells [.pointer (some ⟨rb,0,none⟩)].toArray 45 (0,0))]::(rvS rb x.db {r with dn:=0,m1:=1}++vS x v)) pk_ rfl rfl Tryz.call109 (fun w hw hs=>rebF_g pb rb x v r hr hk hE hL th h1 h4 hth he 0 1 w hs)) fun y hy=>Nl<|PQ.endD fun ac w' ha hw=>?_
 skip
 refine Leaves.call (ss:=[[rvO rb x.db {r with dn:=0,m1:=1,st:= .pointer (some ⟨y.1.a,0,none⟩),why:=0}]]) hw pk_ Tryz.call113 (fun hs=>sto_d _ rb 7 (rvC x.db {r with dn:=0,m1:=1,st:= .pointer (some ⟨y.1.a,0,none⟩),why:=0}) 130 w' rfl hs) fun _ w' _ hw=>?_
 skip
 refine Leaves.call (ss:=[[rvO rb x.db {r with dn:=1,m1:=1,st:= .pointer (some ⟨y.1.a,0,none⟩),why:=0}]]) hw pk_ Tryz.call112 (fun hs=>unl_d rb 8 (rvC x.db {r with dn:=1,m1:=1,st:= .pointer (some ⟨y.1.a,0,none⟩),why:=0}) 130 w' rfl hs) fun _ w' _ hw=>?_
 skip
 exact Leaves.nil0 rfl ⟨y,hy,rfl,hw.pick pk_⟩
theorem do_g (pb rb:Nat)(x:DvR)(v:Dev)(r:Rvl)(hr:ownOk 9 r.kp.length (r.kp.flatMap fdC) r.ko)(hk:r.kp.length≤800∧∀f∈r.kp,fdOk f)(hE:ovE v.D.length r.kp=0)(hL:10≤v.D.length∧v.D.length≤1000)(th:Nat)(h1:1≤th)(h4:th≤4)(hth:r.th=(th:Nat))(he:0≤r.e∧r.e≤1152921504606846976):Mo Tryz.prog 59 [.pointer (some ⟨rb,7,none⟩),.func (.func 109) #[] #[.pointer (some ⟨pb,0,none⟩)]] ([(pb,.cells [.pointer (some ⟨rb,0,none⟩)].toArray 45 (0,0))]::(rvS rb x.db {r with dn:=0,m1:=0}++vS x v)) (fun y:ArR×ArS=>OvA th v.D.length r.e r.kp y) (fun _=> .tuple #[]) (fun y=>[(pb,.cells [.pointer (some ⟨rb,0,none⟩)].toArray 45 (0,0))]::(rvS rb x.db {r with dn:=1,m1:=0,st:= .pointer (some ⟨y.1.a,0,none⟩),why:=0}++(arS y.1 y.2 x.db++vS x v))):=by
 intro w hs
 refine Ca_ Tryz.func59 rfl Tryz.ntmps59 hs<|pA_ 5 ?_
 refine Le (CV fun w hw=>bLoad_c 0 rb 7 (rvC x.db {r with dn:=0,m1:=0}) 130 w rfl hw.pk.sat) fun _ _=>pA_ 7 ?_
 refine Le (Cm_ (slow_g pb rb x v r hr hk hE hL th h1 h4 hth he)) fun y hy=>Nl<|PQ.end0 rfl ?_
 exact fi_ y hy
theorem rbuild_g (rb:Nat)(x:DvR)(v:Dev)(r:Rvl)(hr:ownOk 9 r.kp.length (r.kp.flatMap fdC) r.ko)(hk:r.kp.length≤800∧∀f∈r.kp,fdOk f)(hE:ovE v.D.length r.kp=0)(hL:10≤v.D.length∧v.D.length≤1000)(th:Nat)(h1:1≤th)(h4:th≤4)(hth:r.th=(th:Nat))(he:0≤r.e∧r.e≤1152921504606846976):Mo Tryz.prog 83 [.pointer (some ⟨rb,0,none⟩)] (rvS rb x.db {r with dn:=0,m1:=0}++vS x v) (fun y:ArR×ArS=>OvA th v.D.length r.e r.kp y) (fun _=> .int .i64 0) (fun y=>rvS rb x.db {r with ph:=6,nx:=0,dn:=1,m1:=0,st:= .pointer (some ⟨y.1.a,0,none⟩),why:=0}++(arS y.1 y.2 x.db++vS x v)):=by
 intro w hs
 refine Ca_ Tryz.func83 rfl Tryz.ntmps83 hs<|Sq<|Rg<|Le XS fun b1 _=>pA_ 5 ?_
 refine Lv (Ld (v:= .pointer (some ⟨rb,0,none⟩)))<|Lv Nz<|Lv (Fa 7 101)<|Lv Mf<|Le (Cm_ (do_g b1 rb x v r hr hk hE hL th h1 h4 hth he)) fun y hy=>pA_ 5 ?_
 refine Lv (Ld (v:= .pointer (some ⟨rb,0,none⟩)))<|Lv Nz<|Lv (Fa 11 26)<|Lv (Ld (v:= .int .i64 0))<|pA_ 8 ?_
 refine Lv (Ld (v:= .pointer (some ⟨rb,0,none⟩)))<|Le (Cm_ (to_g rb x.db {r with dn:=1,m1:=0,st:= .pointer (some ⟨y.1.a,0,none⟩),why:=0} 6)) fun _ _=>pA_ 5 ?_
 exact fi_ y hy
end
end G
end Go.Proofs.YtjidffamcdcecaaGreat
namespace Go.Proofs.YtjidffamcdcecaaGreat
open Go Go.RowKit V
set_option linter.unusedVariables false
set_option maxRecDepth 100000
set_option maxHeartbeats 1000000
namespace G
section
attribute [local irreducible] V.CW V.LW V.QW V.RW V.PQ V.Val V.Eff V.Qcall
open V (str byC ownV ownG ownS ownOk)
theorem places130:∀w,((Array.mapM (fun(f:Field)=>do pure (f.offset,← sizeOf f.type)) (Tryz.prog.fieldsOf 130):Sem (Array (Nat×Nat)))).run Tryz.prog w= .ok [(0,1),(1,1),(2,1),(3,1),(4,1),(5,1),(6,1),(7,3),(10,1),(11,1)].toArray w:=by
 intro w;kernel_rfl
instance:AgF Tryz.prog 139:=⟨Tryz.isAgg139⟩
instance:Siz Tryz.prog 140 (kOf Tryz.sizeOf140):=⟨Tryz.sizeOf140⟩
instance:Zer Tryz.prog 140 (zOf Tryz.zeroValue140):=⟨Tryz.zeroValue140⟩
instance:Plc Tryz.prog 130 (fOf Tryz.underlying130) (lOf (P:=Tryz.prog) places130):=⟨places130,Tryz.underlying130⟩
instance:Cal Tryz.prog 49:=⟨Tryz.call49⟩
abbrev phL:List Value:=[.func (.func 78) #[] #[],.func (.func 79) #[] #[],.func (.func 80) #[] #[],.func (.func 81) #[] #[],.func (.func 82) #[] #[],.func (.func 83) #[] #[]]
theorem phases_g:Rz Tryz.prog 49 [] (.agg phL.toArray):=by
 intro w
 refine Cb_ Tryz.func49 rfl Tryz.ntmps49<|Sq<|Rg<|Le AA fun b0 _=>Nl<|Ps<|Sq<|Rg<|Lv (Val.buildArr [_,_,_,_,_,_] Tryz.zeroValue140 Tryz.underlying140 Tryz.sizeOf139 rfl (by rfl))<|LeN StW fun _ _=>Nl<|Ps<|Rt<|PQ.retC (l:=phL) rfl rfl in_ Tryz.isAgg140 (by exact Tryz.sizeOf140) ?_
 exact fb_
def rv0 (th:Int):Rvl:=⟨th,0,0,0,[],none,[],none,0,0,0,.pointer none,0⟩
theorem rnew2_g (db:Nat)(th:Int)(h:1≤th∧th≤4):Mz Tryz.prog 20 [.pointer (some ⟨db,0,none⟩),.int .i64 th] (fun rb:Nat=>True) (fun rb=> .tuple #[.pointer (some ⟨rb,0,none⟩),.int .i64 0]) (fun rb=>rvS rb db (rv0 th)):=by
 intro w
 refine Cb_ Tryz.func20 rfl Tryz.ntmps20<|pA_ 21 ?_
 refine LW.re 9 (.bool false) rfl (by first|rfl|(congr 1;simp<;>omega)|(congr 1;simp;done)|(simp<;>omega))<|Lv Mv<|LW.re 10 (.bool false) rfl (by first|rfl|(congr 1;simp<;>omega)|(congr 1;simp;done)|(simp<;>omega))<|pA_ 3 ?_
 refine LW.re 13 (.bool false) rfl (by first|rfl|(congr 1;simp<;>omega)|(congr 1;simp;done)|(simp<;>omega))<|pA_ 9 ?_
 refine Lv (Bd [_,_,_,_,_,_,_,_,_,_,_,_])<|Le XA fun b17 _=>pA_ 6 ?_
 intro w' hw;exact⟨b17,trivial,rfl,hw.perm (.refl _)⟩
theorem st_open_g (rb:Nat)(x:DvR)(v:Dev)(r:Rvl)(hL:0<v.D.length∧v.D.length≤1000)(hph:r.ph=0):Mo Tryz.prog 21 [.pointer (some ⟨rb,0,none⟩)] (rvS rb x.db r++vS x v) (fun _u:Unit=>True) (fun _=> .int .i64 (openF v.D).2) (fun _=>rvS rb x.db (if(openF v.D).2=0 then opR v.D r else {r with ph:=7})++vS x v):=by
 intro w hs
 refine Ca_ Tryz.func21 rfl Tryz.ntmps21 hs<|pA_ 17 ?_
 refine Le (Cz_ phases_g) fun _ _=>Le AA fun b3 _=>LeN StW fun _ _=>pA_ 8 ?_
 refine Lv (Ld (v:= .int .i64 r.ph))<|Lv Cm<|LW.re 12 (.bool false) rfl (by rw[hph];rfl)<|pA_ 10 ?_
 refine Lv (Ld (v:= .int .i64 r.ph))<|LW.re 16 (.int .i64 ((0:Nat):Int)) rfl (by rw[hph];rfl)<|Lv (Val.indexAddrA (i:=0) rfl rfl Tryz.underlying140 Tryz.sizeOf139 (by decide))<|Lv Ld<|Lv Mv<|Le (Eff.callFM (f:=78) (caps:=[]) (([rvO rb x.db r]::vS x v)) pk_ rfl rfl Tryz.call78 (fun w hw hs0=>ropen_g rb x v r hL w hs0)) fun _ _=>pA_ 10 ?_
 refine Cd_ rfl (fun h22=>?_) fun h22=>?_
 ·refine pA_ 4 ?_
  refine LeN StS fun _ _=>pA_ 10 ?_
  rw[if_neg (show ¬(openF v.D).2=0 from h22)]
  have e7:opR v.D r=r:=by unfold opR;rw[if_neg h22]
  rw[e7] at*
  exact fi_ () trivial
 ·refine pA_ 10 ?_
  have h44:(openF v.D).2=0:=by simpa using h22
  rw[if_pos h44]
  have e7:opR v.D r={r with e:=(openF v.D).1,ph:=1,nx:=0}:=by unfold opR;rw[if_pos h44]
  rw[e7]
  intro w' hw
  exact⟨(),trivial,rfl,hw.pick pk_⟩
theorem st_scan_g (rb:Nat)(x:DvR)(v:Dev)(r:Rvl)(hL:0<v.D.length∧v.D.length≤1000)(hr:RvOk r)(hn:r.nx≤256∧r.fd.length≤700)(hph:r.ph=1)(w:World)(hs:Sat (rvS rb x.db r++vS x v) w):Calls Tryz.prog 21 [.pointer (some ⟨rb,0,none⟩)].toArray w fun e w'=>∃o:V.OwnO,ownOk 9 (scR v.D r o).fd.length ((scR v.D r o).fd.flatMap fdC) o∧e= .returned (.int .i64 0)∧Hp ⟨w,V.ids (rvS rb x.db r++vS x v)⟩ (rvS rb x.db (scR v.D r o)++vS x v) w':=by
 have hfo:∀o,(scR v.D r o).fo=o∧(scR v.D r o).kp=r.kp∧(scR v.D r o).ko=r.ko:=fun o=>by
  unfold scR;simp only;split<;>exact⟨rfl,rfl,rfl⟩
 refine Cs_ (rvS rb x.db r++vS x v) Tryz.func21 rfl Tryz.ntmps21 hs<|pA_ 17 ?_
 refine Le (Cz_ phases_g) fun _ _=>Le AA fun b3 _=>LeN StW fun _ _=>pA_ 8 ?_
 refine Lv (Ld (v:= .int .i64 r.ph))<|Lv Cm<|LW.re 12 (.bool false) rfl (by rw[hph];rfl)<|pA_ 10 ?_
 refine Lv (Ld (v:= .int .i64 r.ph))<|LW.re 16 (.int .i64 ((1:Nat):Int)) rfl (by rw[hph];rfl)<|Lv (Val.indexAddrA (i:=1) rfl rfl Tryz.underlying140 Tryz.sizeOf139 (by decide))<|Lv Ld<|Lv Mv<|Le (Eff.callFM (f:=79) (caps:=[]) (([rvO rb x.db r]::[ownG 146 (r.fd.flatMap fdC) r.fo]++vS x v)) pk_ rfl rfl Tryz.call79 (fun w hw hs0=>rscan_g rb x v r hL hr hn w hs0)) fun o ho=>pA_ 21 ?_
 obtain⟨e1,e2,e3⟩:=hfo o
 intro w' hw
 refine⟨o,ho,rfl,?_⟩
 unfold rvS
 rw[e1,e2,e3]
 exact hw.pick pk_
theorem st_decide_g (rb:Nat)(x:DvR)(v:Dev)(r:Rvl)(hr:RvOk r)(hL:10≤v.D.length∧v.D.length≤1000)(th:Nat)(h1:1≤th)(h4:th≤4)(hth:r.th=(th:Nat))(he:0≤r.e∧r.e≤1152921504606846976)(hph:r.ph=2)(w:World)(hs:Sat (rvS rb x.db r++vS x v) w):Calls Tryz.prog 21 [.pointer (some ⟨rb,0,none⟩)].toArray w fun e w'=>∃o:V.OwnO,ownOk 9 (decR v.D.length r o).kp.length ((decR v.D.length r o).kp.flatMap fdC) (decR v.D.length r o).ko∧e= .returned (.int .i64 (ovE v.D.length (decK r.e r.fd)))∧Hp ⟨w,V.ids (rvS rb x.db r++vS x v)⟩ (rvS rb x.db (if ovE v.D.length (decK r.e r.fd)=0 then decR v.D.length r o else {r with ph:=7})++vS x v) w':=by
 refine Cs_ (rvS rb x.db r++vS x v) Tryz.func21 rfl Tryz.ntmps21 hs<|pA_ 17 ?_
 refine Le (Cz_ phases_g) fun _ _=>Le AA fun b3 _=>LeN StW fun _ _=>pA_ 8 ?_
 refine Lv (Ld (v:= .int .i64 r.ph))<|Lv Cm<|LW.re 12 (.bool false) rfl (by rw[hph];rfl)<|pA_ 10 ?_
 refine Lv (Ld (v:= .int .i64 r.ph))<|LW.re 16 (.int .i64 ((2:Nat):Int)) rfl (by rw[hph];rfl)<|Lv (Val.indexAddrA (i:=2) rfl rfl Tryz.underlying140 Tryz.sizeOf139 (by decide))<|Lv Ld<|Lv Mv<|Le (Eff.callFM (f:=80) (caps:=[]) ((rvS rb x.db r++vS x v)) pk_ rfl rfl Tryz.call80 (fun w hw hs0=>rdecide_g rb x v r hr hL th h1 h4 hth he w hs0)) fun o ho=>pA_ 10 ?_
 refine Cd_ rfl (fun h22=>?_) fun h22=>?_
 ·refine pA_ 4 ?_
  refine LeN StS fun _ _=>pA_ 10 ?_
  have e7:decR v.D.length r o=r:=by unfold decR;rw[if_neg h22]
  intro w' hw
  rw[e7] at hw
  exact⟨o,ho,rfl,by rw[if_neg (show ¬ovE v.D.length (decK r.e r.fd)=0 from h22)];exact hw.pick pk_⟩
 ·refine pA_ 10 ?_
  have h44:ovE v.D.length (decK r.e r.fd)=0:=by simpa using h22
  intro w' hw;exact⟨o,ho,rfl,by rw[if_pos h44];exact hw.pick pk_⟩
theorem st_scrub_g (rb:Nat)(x:DvR)(v:Dev)(r:Rvl)(hr:RvOk r)(hn:r.nx≤r.fd.length)(hL:v.D.length≤1000)(hph:r.ph=3):Mo Tryz.prog 21 [.pointer (some ⟨rb,0,none⟩)] (rvS rb x.db r++vS x v) (fun _u:Unit=>True) (fun _=> .int .i64 0) (fun _=>rvS rb x.db (wpR (scrubF r.e r.fd) r 4)++vS x (wpV (scrubF r.e r.fd) v r)):=by
 intro w hs
 refine Ca_ Tryz.func21 rfl Tryz.ntmps21 hs<|pA_ 17 ?_
 refine Le (Cz_ phases_g) fun _ _=>Le AA fun b3 _=>LeN StW fun _ _=>pA_ 8 ?_
 refine Lv (Ld (v:= .int .i64 r.ph))<|Lv Cm<|LW.re 12 (.bool false) rfl (by rw[hph];rfl)<|pA_ 10 ?_
 refine Lv (Ld (v:= .int .i64 r.ph))<|LW.re 16 (.int .i64 ((3:Nat):Int)) rfl (by rw[hph];rfl)<|Lv (Val.indexAddrA (i:=3) rfl rfl Tryz.underlying140 Tryz.sizeOf139 (by decide))<|Lv Ld<|Lv Mv<|Le (Eff.callFM (f:=81) (caps:=[]) ((rvS rb x.db r++vS x v)) pk_ rfl rfl Tryz.call81 (fun w hw hs0=>rscrub_g rb x v r hr hn hL w hs0)) fun _ _=>pA_ 21 ?_
 exact fi_ () trivial
theorem st_antis_g (rb:Nat)(x:DvR)(v:Dev)(r:Rvl)(hr:RvOk r)(hn:r.nx≤r.fd.length)(hL:v.D.length≤1000)(hph:r.ph=4):Mo Tryz.prog 21 [.pointer (some ⟨rb,0,none⟩)] (rvS rb x.db r++vS x v) (fun _u:Unit=>True) (fun _=> .int .i64 0) (fun _=>rvS rb x.db (wpR (antiF r.e) r 5)++vS x (wpV (antiF r.e) v r)):=by
 intro w hs
 refine Ca_ Tryz.func21 rfl Tryz.ntmps21 hs<|pA_ 17 ?_
 refine Le (Cz_ phases_g) fun _ _=>Le AA fun b3 _=>LeN StW fun _ _=>pA_ 8 ?_
 refine Lv (Ld (v:= .int .i64 r.ph))<|Lv Cm<|LW.re 12 (.bool false) rfl (by rw[hph];rfl)<|pA_ 10 ?_
 refine Lv (Ld (v:= .int .i64 r.ph))<|LW.re 16 (.int .i64 ((4:Nat):Int)) rfl (by rw[hph];rfl)<|Lv (Val.indexAddrA (i:=4) rfl rfl Tryz.underlying140 Tryz.sizeOf139 (by decide))<|Lv Ld<|Lv Mv<|Le (Eff.callFM (f:=82) (caps:=[]) ((rvS rb x.db r++vS x v)) pk_ rfl rfl Tryz.call82 (fun w hw hs0=>rantis_g rb x v r hr hn hL w hs0)) fun _ _=>pA_ 21 ?_
 exact fi_ () trivial
theorem st_build_g (rb:Nat)(x:DvR)(v:Dev)(r:Rvl)(hr:ownOk 9 r.kp.length (r.kp.flatMap fdC) r.ko)(hk:r.kp.length≤800∧∀f∈r.kp,fdOk f)(hE:ovE v.D.length r.kp=0)(hL:10≤v.D.length∧v.D.length≤1000)(th:Nat)(h1:1≤th)(h4:th≤4)(hth:r.th=(th:Nat))(he:0≤r.e∧r.e≤1152921504606846976)(hd:r.dn=0)(hm1:r.m1=0)(hph:r.ph=5):Mo Tryz.prog 21 [.pointer (some ⟨rb,0,none⟩)] (rvS rb x.db r++vS x v) (fun y:ArR×ArS=>OvA th v.D.length r.e r.kp y) (fun _=> .int .i64 0) (fun y=>rvS rb x.db {r with ph:=6,nx:=0,dn:=1,m1:=0,st:= .pointer (some ⟨y.1.a,0,none⟩),why:=0}++(arS y.1 y.2 x.db++vS x v)):=by
 intro w hs
 have hrr:r={r with dn:=0,m1:=0}:=by
  cases r
  simp only at hd hm1
  subst hd
  subst hm1
  rfl
 refine Ca_ Tryz.func21 rfl Tryz.ntmps21 hs<|pA_ 17 ?_
 refine Le (Cz_ phases_g) fun _ _=>Le AA fun b3 _=>LeN StW fun _ _=>pA_ 8 ?_
 refine Lv (Ld (v:= .int .i64 r.ph))<|Lv Cm<|LW.re 12 (.bool false) rfl (by rw[hph];rfl)<|pA_ 10 ?_
 refine Lv (Ld (v:= .int .i64 r.ph))<|LW.re 16 (.int .i64 ((5:Nat):Int)) rfl (by rw[hph];rfl)<|Lv (Val.indexAddrA (i:=5) rfl rfl Tryz.underlying140 Tryz.sizeOf139 (by decide))<|Lv Ld<|Lv Mv<|Le (Eff.callFM (f:=83) (caps:=[]) ((rvS rb x.db r++vS x v)) pk_ rfl rfl Tryz.call83 (fun w hw hs0=>by rw[hrr] at hs0⊢;exact rbuild_g rb x v r hr hk hE hL th h1 h4 hth he w hs0)) fun y hy=>pA_ 21 ?_
 exact fi_ y hy
theorem st_over_g (rb db:Nat)(r:Rvl)(hph:6≤r.ph):Rx Tryz.prog 21 [.pointer (some ⟨rb,0,none⟩)] [[rvO rb db r]] (.int .i64 12):=by
 intro w hs
 refine Ca_ Tryz.func21 rfl Tryz.ntmps21 hs<|pA_ 17 ?_
 refine Le (Cz_ phases_g) fun _ _=>Le AA fun b3 _=>LeN StW fun _ _=>pA_ 8 ?_
 refine Lv (Ld (v:= .int .i64 r.ph))<|Lv Cm<|LW.re 12 (.bool true) rfl (by congr 1;simp;omega)<|pA_ 11 ?_
 exact fr_ hs
end
section
attribute [local irreducible] V.CW V.LW V.QW V.RW V.PQ V.Val V.Eff V.Qcall
open V (str byC ownV ownG ownS ownOk)
structure Cor where
 ph:Int
 e:Int
 nx:Int
 fd:List Fnd
 kp:List Fnd
def corOf (r:Rvl):Cor:=⟨r.ph,r.e,r.nx,r.fd,r.kp⟩
def scFd (D:List Ce)(nx:Int)(fd:List Fnd):List Fnd:=match scN D nx with
 |none=>fd
 |some y=>fd++[y]
def scC (D:List Ce)(c:Cor):Cor:=
 if slabsF D.length*8≤c.nx+1 then {c with fd:=scFd D c.nx c.fd,ph:=2,nx:=0} else {c with fd:=scFd D c.nx c.fd,nx:=c.nx+1}
def wpC (q:Fnd→Bool)(c:Cor)(p:Int):Cor:=match nextW q (c.fd.drop c.nx.toNat) with
 |some y=>{c with nx:=c.nx+((y.1+1:Nat):Int)}
 |none=>{c with ph:=p,nx:=0}
def wpD (q:Fnd→Bool)(v:Dev)(c:Cor):Dev:=match nextW q (c.fd.drop c.nx.toNat) with
 |some p=>wipeV v p.2
 |none=>v.fence
def stp (v:Dev)(c:Cor):Dev×Cor×Int:=
 if c.ph=0 then(v,if(openF v.D).2=0 then {c with e:=(openF v.D).1,ph:=1,nx:=0} else {c with ph:=7},(openF v.D).2)
 else if c.ph=1 then(v,scC v.D c,0)
 else if c.ph=2 then(v,if ovE v.D.length (decK c.e c.fd)=0 then {c with kp:=decK c.e c.fd,ph:=3,nx:=0} else {c with ph:=7},ovE v.D.length (decK c.e c.fd))
 else if c.ph=3 then(wpD (scrubF c.e c.fd) v c,wpC (scrubF c.e c.fd) c 4,0)
 else if c.ph=4 then(wpD (antiF c.e) v c,wpC (antiF c.e) c 5,0)
 else if c.ph=5 then(v,{c with ph:=6,nx:=0},0)
 else(v,c,12)
structure Inv (n:Nat)(v:Dev)(c:Cor):Prop where
 len:v.D.length=n
 n1:0<n∧n≤1000
 ph:0≤c.ph
 op:1≤c.ph→c.ph≤5→10≤n∧0≤c.e∧c.e≤1152921504606846976
 nx:0≤c.nx
 f0:c.ph=0→c.fd.length=0
 n2:c.ph=1→c.nx+1≤slabsF n*8∧c.fd.length≤c.nx
 fl:c.fd.length≤256
 tx:∀f∈c.fd,fdOk f
 wp:2≤c.ph→c.ph≤5→c.nx≤c.fd.length
 fs:2≤c.ph→c.ph≤5→(c.fd.length:Int)≤slabsF n*8
 kp:3≤c.ph→c.ph≤6→c.kp=decK c.e c.fd∧ovE n c.kp=0
theorem nextW_lt {q:Fnd→Bool}:∀{l:List Fnd} {y:Nat×Fnd},nextW q l=some y→y.1<l.length∧l[y.1]? =some y.2∧q y.2=true
 |[],y,h=>by cases h
 |f::r,y,h=>by
  unfold nextW at h
  split at h
  ·rename_i hq
   simp only[Option.some.injEq] at h
   subst h
   exact⟨by simp,rfl,hq⟩
  ·rw[Option.map_eq_some_iff] at h
   obtain⟨z,hz,rfl⟩:=h
   have h8:=nextW_lt hz
   exact⟨by simp;exact h8.1,by simpa using h8.2.1,h8.2.2⟩
theorem wpD_len (q:Fnd→Bool)(v:Dev)(c:Cor):(wpD q v c).D.length=v.D.length:=by
 unfold wpD
 split
 ·unfold wipeV;rw[Dev.flush_len,Dev.store_len]
 ·rw[Dev.fence_len]
theorem open_ok {D:List Ce}(h:(openF D).2=0):10≤D.length∧(openF D).1≤1152921504606846976∧∃c0 c1,D[0]? =some c0∧D[1]? =some c1∧(isSuperF c0.now).2=true∧(isSuperF c0.now).1=(D.length:Nat)∧(isClockF c1.now).2=true∧(openF D).1=(isClockF c1.now).1:=by
 unfold openF at h⊢
 cases h0:D[0]? with
 |none=>rw[h0] at h;cases h
 |some c0=>
  rw[h0] at h
  simp only at h⊢
  by_cases ha:(isSuperF c0.now).2=false∨(isSuperF c0.now).1≠(D.length:Nat)
  ·rw[if_pos ha] at h;cases h
  ·rw[if_neg ha] at h⊢
   have h2:(isSuperF c0.now).2=true:=by
    cases e:(isSuperF c0.now).2 with
    |true=>rfl
    |false=>exact absurd (.inl e) ha
   have h3:(isSuperF c0.now).1=(D.length:Nat):=by
    by_cases e:(isSuperF c0.now).1=(D.length:Nat)
    ·exact e
    ·exact absurd (.inr e) ha
   have h4:=super_ge h2
   cases h1:D[1]? with
   |none=>rw[h1] at h;cases h
   |some c1=>
    rw[h1] at h
    simp only at h⊢
    by_cases hb:(isClockF c1.now).2=false
    ·rw[if_pos hb] at h;cases h
    ·rw[if_neg hb] at h⊢
     by_cases hc:1152921504606846976<(isClockF c1.now).1
     ·rw[if_pos hc] at h;cases h
     ·rw[if_neg hc]
      exact⟨by omega,by simp only;omega,c0,c1,rfl,rfl,h2,h3,by simpa using hb,rfl⟩
end
section
attribute [local irreducible] V.CW V.LW V.QW V.RW V.PQ V.Val V.Eff V.Qcall
open V (str byC ownV ownG ownS ownOk)
theorem getStep_nn (v:Int)(b:UInt8)(i:Nat):0≤getStep v b i:=by
 unfold getStep
 have h:=(BitVec.ofInt IntKind.u64.bits v|||BitVec.ofInt IntKind.u64.bits (IntKind.u64.wrap (IntKind.u64.wrap ((b.toNat:Nat):Int)*2^(min ((8:Int)*(i:Nat)).toNat IntKind.u64.bits)))).isLt
 have h2:(2:Nat)^IntKind.u64.bits=18446744073709551616:=by decide
 rw[h2] at h
 rw[IntWalk.u64_in _ om_]
 omega
theorem getN_nn (l:List UInt8)(a:Nat):∀k,0≤getN l a k
 |0=>Int.le_refl _
 |k+1=>getStep_nn _ _ _
theorem clock_nn (b:B64):0≤(isClockF b).1:=by
 unfold isClockF
 split
 ·exact getN_nn _ _ _
 ·exact Int.le_refl _
theorem scN_ok {D:List Ce}{nx:Int}{y:Fnd}(h:scN D nx=some y):fdOk y:=by
 unfold scN at h
 split at h
 ·cases h
 ·split at h
  ·cases h
  ·simp only[Option.some.injEq] at h
   rw[← h];exact look_ok _ _ _ _
theorem Inv.step0 {n:Nat}{v:Dev}{c:Cor}(h:Inv n v c)(hp:c.ph=0):Inv n v (if(openF v.D).2=0 then {c with e:=(openF v.D).1,ph:=1,nx:=0} else {c with ph:=7}):=by
 have hf:=h.f0 hp
 split
 ·rename_i ho
  obtain⟨h10,hle,c0,c1,_,_,_,_,_,he⟩:=open_ok ho
  have hnn:=clock_nn c1.now
  have hsr:=slabs_rng (n:=n) (by rw[← h.len];exact h10)
  refine⟨h.len,h.n1,by simp,fun _ _=>⟨by rw[← h.len];exact h10,by simp only;omega,hle⟩,by simp,fun h8=>absurd h8 (by simp),fun _=>⟨by simp only;omega,by simp only;omega⟩,h.fl,h.tx,fun h8 _=>absurd h8 (by simp),fun h8 _=>absurd h8 (by simp),fun h8 _=>absurd h8 (by simp)⟩
 ·refine⟨h.len,h.n1,by simp,fun _ h8=>absurd h8 (by simp),h.nx,fun h8=>absurd h8 (by simp),fun h8=>absurd h8 (by simp),h.fl,h.tx,fun _ h8=>absurd h8 (by simp),fun _ h8=>absurd h8 (by simp),fun _ h8=>absurd h8 (by simp)⟩
theorem Inv.step1 {n:Nat}{v:Dev}{c:Cor}(h:Inv n v c)(hp:c.ph=1):Inv n v (scC v.D c):=by
 obtain⟨h10,he0,he1⟩:=h.op om_ om_
 obtain⟨hn1,hn2⟩:=h.n2 hp
 have hnx:=h.nx
 have hsr:=slabs_rng h10
 have hlen:=h.len
 obtain⟨hfl,hft⟩:((scFd v.D c.nx c.fd).length:Int)≤c.nx+1∧∀g∈scFd v.D c.nx c.fd,fdOk g:=by
  unfold scFd
  cases hs:scN v.D c.nx with
  |none=>exact⟨by simp only;omega,h.tx⟩
  |some y=>
   refine⟨by simp only[List.length_append,List.length_singleton];omega,fun g hg=>?_⟩
   rcases List.mem_append.1 hg with hg|hg
   ·exact h.tx g hg
   ·rw[List.mem_singleton] at hg;rw[hg];exact scN_ok hs
 unfold scC
 rw[hlen]
 split
 ·refine⟨h.len,h.n1,by simp,fun _ _=>⟨h10,he0,he1⟩,by simp,fun h8=>absurd h8 (by simp),fun h8=>absurd h8 (by simp),by simp only;omega,hft,fun _ _=>by simp only;omega,fun _ _=>by simp only;omega,fun h8 _=>absurd h8 (by simp)⟩
 ·refine⟨h.len,h.n1,h.ph,fun _ _=>⟨h10,he0,he1⟩,by simp only;omega,fun h8=>absurd h8 (by simp only;omega),fun _=>⟨by simp only;omega,by simp only;omega⟩,by simp only;omega,hft,fun h8 _=>absurd h8 (by simp only;omega),fun h8 _=>absurd h8 (by simp only;omega),fun h8 _=>absurd h8 (by simp only;omega)⟩
theorem Inv.step2 {n:Nat}{v:Dev}{c:Cor}(h:Inv n v c)(hp:c.ph=2):Inv n v (if ovE v.D.length (decK c.e c.fd)=0 then {c with kp:=decK c.e c.fd,ph:=3,nx:=0} else {c with ph:=7}):=by
 have h8:=h.op om_ om_
 have hlen:=h.len
 split
 ·rename_i ho
  refine⟨h.len,h.n1,by simp,fun _ _=>h8,by simp,fun h8=>absurd h8 (by simp),fun h8=>absurd h8 (by simp),h.fl,h.tx,fun _ _=>by simp,fun _ _=>h.fs om_ om_,fun _ _=>⟨rfl,by rw[← hlen];exact ho⟩⟩
 ·refine⟨h.len,h.n1,by simp,fun _ h8=>absurd h8 (by simp),h.nx,fun h8=>absurd h8 (by simp),fun h8=>absurd h8 (by simp),h.fl,h.tx,fun _ h8=>absurd h8 (by simp),fun _ h8=>absurd h8 (by simp),fun _ h8=>absurd h8 (by simp)⟩
theorem Inv.stepW {n:Nat}{v:Dev}{c:Cor}(h:Inv n v c)(hp:3≤c.ph∧c.ph≤4)(q:Fnd→Bool):Inv n (wpD q v c) (wpC q c (c.ph+1)):=by
 have h8:=h.op om_ om_
 have hw:=h.wp om_ om_
 have hnx:=h.nx
 have hk:=h.kp om_ om_
 have hfs:=h.fs om_ om_
 have hl:(wpD q v c).D.length=n:=(wpD_len q v c).trans h.len
 unfold wpC
 cases hq:nextW q (c.fd.drop c.nx.toNat) with
 |none=>exact⟨hl,h.n1,by simp only;omega,fun _ _=>h8,by simp,fun h9=>absurd h9 (by simp only;omega),fun h9=>absurd h9 (by simp only;omega),h.fl,h.tx,fun _ _=>by simp,fun _ _=>hfs,fun _ _=>hk⟩
 |some y=>
  have h9:=(nextW_lt hq).1
  rw[List.length_drop] at h9
  exact⟨hl,h.n1,h.ph,fun _ _=>h8,by simp only;omega,fun h9=>absurd h9 (by simp only;omega),fun h9=>absurd h9 (by simp only;omega),h.fl,h.tx,fun _ _=>by simp only;omega,fun _ _=>hfs,fun _ _=>hk⟩
theorem Inv.step5 {n:Nat}{v:Dev}{c:Cor}(h:Inv n v c)(hp:c.ph=5):Inv n v {c with ph:=6,nx:=0}:=by
 have hk:=h.kp om_ om_
 exact⟨h.len,h.n1,by simp,fun _ h8=>absurd h8 (by simp),by simp,fun h8=>absurd h8 (by simp),fun h8=>absurd h8 (by simp),h.fl,h.tx,fun _ h8=>absurd h8 (by simp),fun _ h8=>absurd h8 (by simp),fun _ _=>hk⟩
theorem Inv.step {n:Nat}{v:Dev}{c:Cor}(h:Inv n v c):Inv n (stp v c).1 (stp v c).2.1:=by
 have hp:=h.ph
 unfold stp
 by_cases h0:c.ph=0
 ·rw[if_pos h0];exact h.step0 h0
 ·rw[if_neg h0]
  by_cases h1:c.ph=1
  ·rw[if_pos h1];exact h.step1 h1
  ·rw[if_neg h1]
   by_cases h2:c.ph=2
   ·rw[if_pos h2];exact h.step2 h2
   ·rw[if_neg h2]
    by_cases h3:c.ph=3
    ·rw[if_pos h3];have h9:=h.stepW ⟨by omega,by omega⟩ (scrubF c.e c.fd);rw[h3] at h9;exact h9
    ·rw[if_neg h3]
     by_cases h4:c.ph=4
     ·rw[if_pos h4];have h9:=h.stepW ⟨by omega,by omega⟩ (antiF c.e);rw[h4] at h9;exact h9
     ·rw[if_neg h4]
      by_cases h5:c.ph=5
      ·rw[if_pos h5];exact h.step5 h5
      ·rw[if_neg h5];exact h
def pot (n:Nat)(c:Cor):Int:=if c.ph=0 then 3*(slabsF n*8)+10 else if c.ph=1 then 3*(slabsF n*8)+9-c.nx else if c.ph=2 then 2*(slabsF n*8)+8 else if c.ph=3 then 2*(slabsF n*8)+4-c.nx else if c.ph=4 then slabsF n*8+2-c.nx else if c.ph=5 then 1 else 0
theorem Inv.pot_nn {n:Nat}{v:Dev}{c:Cor}(h:Inv n v c):0≤pot n c∧(pot n c=0→6≤c.ph):=by
 have hp:=h.ph
 have hs:=slabs_lt n
 have h1:=h.n2
 have h2:=h.wp
 have h3:=h.fs
 unfold pot
 by_cases h0:c.ph=0
 ·rw[if_pos h0];omega
 ·rw[if_neg h0]
  by_cases h1':c.ph=1
  ·have:=h1 h1';rw[if_pos h1'];omega
  ·rw[if_neg h1']
   by_cases h2':c.ph=2
   ·rw[if_pos h2'];omega
   ·rw[if_neg h2']
    by_cases h3':c.ph=3
    ·have:=h2 om_ om_;have:=h3 om_ om_;rw[if_pos h3'];omega
    ·rw[if_neg h3']
     by_cases h4':c.ph=4
     ·have:=h2 om_ om_;have:=h3 om_ om_;rw[if_pos h4'];omega
     ·rw[if_neg h4']
      by_cases h5':c.ph=5
      ·rw[if_pos h5'];omega
      ·rw[if_neg h5'];omega
theorem scC_cases (D:List Ce)(c:Cor):(slabsF D.length*8≤c.nx+1∧(scC D c).ph=2∧(scC D c).nx=0)∨(¬slabsF D.length*8≤c.nx+1∧(scC D c).ph=c.ph∧(scC D c).nx=c.nx+1):=by
 unfold scC
 split
 ·rename_i h;exact .inl ⟨h,rfl,rfl⟩
 ·rename_i h;exact .inr ⟨h,rfl,rfl⟩
theorem wpC_cases (q:Fnd→Bool)(c:Cor)(p:Int)(h0:0≤c.nx):((wpC q c p).ph=p∧(wpC q c p).nx=0)∨((wpC q c p).ph=c.ph∧c.nx+1≤(wpC q c p).nx):=by
 unfold wpC
 split
 ·exact .inr ⟨rfl,by simp only;omega⟩
 ·exact .inl ⟨rfl,rfl⟩
theorem Inv.pot_step {n:Nat}{v:Dev}{c:Cor}(h:Inv n v c)(hp6:c.ph<6):pot n (stp v c).2.1+1≤pot n c:=by
 have hp:=h.ph
 have hs:=slabs_lt n
 have hnx:=h.nx
 have hlen:=h.len
 have hn2:=h.n2
 have hwp:=h.wp
 have hfs:=h.fs
 unfold stp
 by_cases h0:c.ph=0
 ·rw[if_pos h0]
  simp only
  split
  ·simp only[pot,h0];simp;omega
  ·simp only[pot,h0];simp;omega
 ·rw[if_neg h0]
  by_cases h1:c.ph=1
  ·rw[if_pos h1]
   have:=hn2 h1
   rcases scC_cases v.D c with⟨a,b,d⟩|⟨a,b,d⟩
   ·simp only[pot,b,d,h1];simp;omega
   ·simp only[pot,b,d,h1];simp;omega
  ·rw[if_neg h1]
   by_cases h2:c.ph=2
   ·rw[if_pos h2]
    simp only
    split
    ·simp only[pot,h2];simp;omega
    ·simp only[pot,h2];simp;omega
   ·rw[if_neg h2]
    by_cases h3:c.ph=3
    ·rw[if_pos h3]
     have:=hwp om_ om_
     have:=hfs om_ om_
     rcases wpC_cases (scrubF c.e c.fd) c 4 hnx with⟨a,b⟩|⟨a,b⟩
     ·simp only[pot,a,b,h3];simp;omega
     ·simp only[pot,a,h3];simp;omega
    ·rw[if_neg h3]
     by_cases h4:c.ph=4
     ·rw[if_pos h4]
      have:=hwp om_ om_
      have:=hfs om_ om_
      rcases wpC_cases (antiF c.e) c 5 hnx with⟨a,b⟩|⟨a,b⟩
      ·simp only[pot,a,h4];simp;omega
      ·simp only[pot,a,h4];simp;omega
     ·rw[if_neg h4,if_pos (show c.ph=5 by omega)]
      simp only[pot,show c.ph=5 by omega];simp
end
section
attribute [local irreducible] V.CW V.LW V.QW V.RW V.PQ V.Val V.Eff V.Qcall
open V (str byC ownV ownG ownS ownOk)
def arG (x:DvR)(v:Dev)(ar:Option (ArR×ArS)):Sg:=match ar with
 |none=>vS x v
 |some y=>arS y.1 y.2 x.db++vS x v
abbrev rvG (rb:Nat)(x:DvR)(v:Dev)(r:Rvl)(ar:Option (ArR×ArS)):Sg:=rvS rb x.db r++arG x v ar
structure RvX (th n:Nat)(r:Rvl)(ar:Option (ArR×ArS)):Prop where
 tid:r.th=(th:Nat)
 fd:ownOk 9 r.fd.length (r.fd.flatMap fdC) r.fo
 kp:ownOk 9 r.kp.length (r.kp.flatMap fdC) r.ko
 on:r.ph≤5→r.dn=0∧r.m1=0
 has:ar.isSome=decide (r.ph=6)
 got:∀y,ar=some y→OvA th n r.e r.kp y∧r.st= .pointer (some ⟨y.1.a,0,none⟩)
theorem Inv.rok {n:Nat}{v:Dev}{r:Rvl}{th m:Nat}{ar:Option (ArR×ArS)}(h:Inv n v (corOf r))(hx:RvX th m r ar):RvOk r:=⟨hx.fd,hx.kp,by have h8:r.fd.length≤256:=h.fl;omega,h.tx,h.nx⟩
theorem stp_ph {v:Dev}{c:Cor}(h:6≤c.ph):stp v c=(v,c,12):=by
 unfold stp
 rw[if_neg om_,if_neg om_,if_neg om_,if_neg om_,if_neg om_,if_neg om_]
theorem step_g (rb:Nat)(x:DvR)(v:Dev)(r:Rvl)(ar:Option (ArR×ArS))(th:Nat)(h1:1≤th)(h4:th≤4)(hI:Inv v.D.length v (corOf r))(hX:RvX th v.D.length r ar)(w:World)(hs:Sat (rvG rb x v r ar) w):Calls Tryz.prog 21 [.pointer (some ⟨rb,0,none⟩)].toArray w fun e w'=>∃q:Rvl×Option (ArR×ArS),(corOf q.1=(stp v (corOf r)).2.1∧RvX th v.D.length q.1 q.2)∧e= .returned (.int .i64 (stp v (corOf r)).2.2)∧Hp ⟨w,V.ids (rvG rb x v r ar)⟩ (rvG rb x (stp v (corOf r)).1 q.1 q.2) w':=by
 have hok:=hI.rok hX
 have hp:=hI.ph
 have hn:=hI.n1
 by_cases h6:6≤r.ph
 ·refine(st_over_g rb x.db r h6 w (hs.pick pk_)).mono fun e w' ⟨he,hb⟩=>?_
  rw[stp_ph (c:=corOf r) h6]
  exact⟨(r,ar),⟨rfl,hX⟩,he,(V.Hp.start hs).call_ro hb⟩
 have har:ar=none:=by
  have h8:=hX.has
  rw[decide_eq_false om_] at h8
  cases ar with
  |none=>rfl
  |some y=>cases h8
 subst har
 have hno:∀{z:Rvl} {y:ArR×ArS},(none:Option (ArR×ArS))=some y→OvA th v.D.length z.e z.kp y∧z.st= .pointer (some ⟨y.1.a,0,none⟩):=fun h=>by cases h
 have hpr:(corOf r).ph=r.ph:=rfl
 have hdm:=hX.on om_
 by_cases h0:r.ph=0
 ·have e:stp v (corOf r)=(v,if(openF v.D).2=0 then {corOf r with e:=(openF v.D).1,ph:=1,nx:=0} else {corOf r with ph:=7},(openF v.D).2):=by unfold stp;rw[hpr,if_pos h0]
  rw[e]
  refine(st_open_g rb x v r hn h0 w hs).mono fun e w' ⟨_,_,he,hw⟩=>⟨(if(openF v.D).2=0 then opR v.D r else {r with ph:=7},none),?_,he,hw⟩
  by_cases ho:(openF v.D).2=0
  ·have e7:opR v.D r={r with e:=(openF v.D).1,ph:=1,nx:=0}:=by unfold opR;rw[if_pos ho]
   simp only[if_pos ho,e7]
   exact⟨rfl,hX.tid,hX.fd,hX.kp,fun _=>hdm,by simp,fun y h=>by cases h⟩
  ·simp only[if_neg ho]
   exact⟨rfl,hX.tid,hX.fd,hX.kp,fun h=>absurd h (by simp),by simp,fun y h=>by cases h⟩
 by_cases h1p:r.ph=1
 ·have e:stp v (corOf r)=(v,scC v.D (corOf r),0):=by unfold stp;rw[hpr,if_neg h0,if_pos h1p]
  rw[e]
  have hn2:=hI.n2 h1p
  have hsl:=slabs_lt v.D.length
  have hn2a:r.nx+1≤slabsF v.D.length*8:=hn2.1
  have hfl:r.fd.length≤256:=hI.fl
  refine(st_scan_g rb x v r hn hok ⟨by omega,by omega⟩ h1p w hs).mono fun e w' ⟨o,ho,he,hw⟩=>⟨(scR v.D r o,none),?_,he,hw⟩
  have hc:corOf (scR v.D r o)=scC v.D (corOf r)∧(scR v.D r o).th=r.th∧(scR v.D r o).fo=o∧(scR v.D r o).kp=r.kp∧(scR v.D r o).ko=r.ko∧(scR v.D r o).dn=r.dn∧(scR v.D r o).m1=r.m1∧((scR v.D r o).ph=1∨(scR v.D r o).ph=2):=by
   unfold scR scC scFd corOf
   simp only
   split
   ·exact⟨rfl,rfl,rfl,rfl,rfl,rfl,rfl,.inr rfl⟩
   ·exact⟨rfl,rfl,rfl,rfl,rfl,rfl,rfl,.inl h1p⟩
  obtain⟨c1,c2,c3,c4,c5,c6,c7,c8⟩:=hc
  refine⟨c1,?_⟩
  exact⟨c2.trans hX.tid,by rw[c3];exact ho,by rw[c4,c5];exact hX.kp,fun _=>by rw[c6,c7];exact hdm,by simp only[Option.isSome_none];rw[decide_eq_false om_],fun y h=>by cases h⟩
 obtain⟨h10,he0,he1⟩:=hI.op (by rw[hpr];omega) (by rw[hpr];omega)
 have hwp:r.nx≤r.fd.length:=hI.wp (by rw[hpr];omega) (by rw[hpr];omega)
 by_cases h2p:r.ph=2
 ·have e:stp v (corOf r)=(v,if ovE v.D.length (decK r.e r.fd)=0 then {corOf r with kp:=decK r.e r.fd,ph:=3,nx:=0} else {corOf r with ph:=7},ovE v.D.length (decK r.e r.fd)):=by unfold stp;rw[hpr,if_neg h0,if_neg h1p,if_pos h2p];rfl
  rw[e]
  refine(st_decide_g rb x v r hok ⟨h10,hn.2⟩ th h1 h4 hX.tid ⟨he0,he1⟩ h2p w hs).mono fun e w' ⟨o,ho,he,hw⟩=>⟨(if ovE v.D.length (decK r.e r.fd)=0 then decR v.D.length r o else {r with ph:=7},none),?_,he,hw⟩
  by_cases hz:ovE v.D.length (decK r.e r.fd)=0
  ·have e7:decR v.D.length r o={r with kp:=decK r.e r.fd,ko:=o,ph:=3,nx:=0}:=by unfold decR;rw[if_pos hz]
   rw[e7] at ho
   simp only[if_pos hz,e7]
   exact⟨rfl,hX.tid,hX.fd,ho,fun _=>hdm,by simp,fun y h=>by cases h⟩
  ·simp only[if_neg hz]
   exact⟨rfl,hX.tid,hX.fd,hX.kp,fun h=>absurd h (by simp),by simp,fun y h=>by cases h⟩
 have hkp:=hI.kp (by rw[hpr];omega) (by rw[hpr];omega)
 have hwx:∀(q:Fnd→Bool) (p:Int),(p=4∨p=5)→corOf (wpR q r p)=wpC q (corOf r) p∧RvX th v.D.length (wpR q r p) none:=fun q p hp45=>by
  unfold wpR wpC corOf
  simp only
  cases nextW q (r.fd.drop r.nx.toNat)
  ·exact⟨rfl,hX.tid,hX.fd,hX.kp,fun _=>hdm,by simp only[Option.isSome_none];rw[decide_eq_false om_],fun y h=>by cases h⟩
  ·exact⟨rfl,hX.tid,hX.fd,hX.kp,fun _=>hdm,by simp only[Option.isSome_none];rw[decide_eq_false om_],fun y h=>by cases h⟩
 by_cases h3p:r.ph=3
 ·have e:stp v (corOf r)=(wpV (scrubF r.e r.fd) v r,wpC (scrubF r.e r.fd) (corOf r) 4,0):=by unfold stp;rw[hpr,if_neg h0,if_neg h1p,if_neg h2p,if_pos h3p];rfl
  rw[e]
  exact(st_scrub_g rb x v r hok hwp hn.2 h3p w hs).mono fun e w' ⟨_,_,he,hw⟩=>⟨(wpR (scrubF r.e r.fd) r 4,none),hwx _ 4 (.inl rfl),he,hw⟩
 by_cases h4p:r.ph=4
 ·have e:stp v (corOf r)=(wpV (antiF r.e) v r,wpC (antiF r.e) (corOf r) 5,0):=by unfold stp;rw[hpr,if_neg h0,if_neg h1p,if_neg h2p,if_neg h3p,if_pos h4p];rfl
  rw[e]
  exact(st_antis_g rb x v r hok hwp hn.2 h4p w hs).mono fun e w' ⟨_,_,he,hw⟩=>⟨(wpR (antiF r.e) r 5,none),hwx _ 5 (.inr rfl),he,hw⟩
 have h5p:r.ph=5:=by have:0≤r.ph:=hp;omega
 have e:stp v (corOf r)=(v,{corOf r with ph:=6,nx:=0},0):=by unfold stp;rw[hpr,if_neg h0,if_neg h1p,if_neg h2p,if_neg h3p,if_neg h4p,if_pos h5p]
 rw[e]
 have hke:r.kp=decK r.e r.fd:=hkp.1
 have hfl:r.fd.length≤256:=hI.fl
 have hkl:r.kp.length≤800∧∀f∈r.kp,fdOk f:=by
  rw[hke]
  refine⟨?_,fun f hf=>hI.tx f (List.mem_filter.1 hf).1⟩
  have:=List.length_filter_le (keepF r.e r.fd) r.fd
  unfold decK;omega
 exact(st_build_g rb x v r hX.kp hkl hkp.2 ⟨h10,hn.2⟩ th h1 h4 hX.tid ⟨he0,he1⟩ hdm.1 hdm.2 h5p w hs).mono fun e w' ⟨y,hy,he,hw⟩=>⟨({r with ph:=6,nx:=0,dn:=1,m1:=0,st:= .pointer (some ⟨y.1.a,0,none⟩),why:=0},some y),⟨rfl,hX.tid,hX.fd,hX.kp,fun h=>absurd h (by simp),by simp,fun z h=>by cases h;exact⟨hy,rfl⟩⟩,he,hw⟩
end
section
attribute [local irreducible] V.CW V.LW V.QW V.RW V.PQ V.Val V.Eff V.Qcall
open V (str byC ownV ownG ownS ownOk)
def wip1 (D:List Ce)(f:Fnd):List Ce:=upD (stD D f.line 0 (draftL f.b.cls)) f.line (fun c=>{c with way:=c.now,sent:=true})
def wl (D:List Ce)(fs:List Fnd):List Ce:=fs.foldl wip1 D
theorem wipeV_D (v:Dev)(f:Fnd):(wipeV v f).D=wip1 v.D f:=rfl
theorem wl_snoc (D:List Ce)(fs:List Fnd)(f:Fnd):wl D (fs++[f])=wip1 (wl D fs) f:=by unfold wl;rw[List.foldl_append];rfl
theorem put_all {b:B64}{l:List UInt8}(h:l.length=64):(putT b 0 l).1=l:=by
 rw[putT_of om_]
 have hb:=b.2
 unfold putB
 simp[List.drop_eq_nil_iff.2 (show b.1.length≤l.length by omega)]
theorem wip1_at {D:List Ce}{f:Fnd}{i:Nat}{c':Ce}(hl:(draftL f.b.cls).length=64)(h:(wip1 D f)[i]? =some c'):(f.line≠(i:Nat)∧D[i]? =some c')∨(f.line=(i:Nat)∧c'.now.1=draftL f.b.cls∧c'.way=c'.now∧c'.sent=true):=by
 unfold wip1 at h
 by_cases hin:0≤f.line∧f.line<D.length
 ·obtain⟨k,hk⟩:∃k:Nat,f.line=k:=⟨f.line.toNat,by omega⟩
  have hkl:k<D.length:=by omega
  have hD:D[k]? =some D[k]:=List.getElem?_eq_getElem hkl
  have hth:thB D.length f.line 0 (draftL f.b.cls).length=true:=by unfold thB;simp;omega
  have e1:stD D f.line 0 (draftL f.b.cls)=D.set k {D[k] with now:=putT D[k].now 0 (draftL f.b.cls)}:=by
   unfold stD
   rw[if_pos hth,hk,upD_set hD];rfl
  rw[e1,hk,upD_set (c:={D[k] with now:=putT D[k].now 0 (draftL f.b.cls)}) (List.getElem?_set_self hkl),List.set_set] at h
  by_cases e:k=i
  ·right
   subst e
   rw[List.getElem?_set_self hkl,Option.some.injEq] at h
   rw[← h]
   exact⟨hk,put_all hl,rfl,rfl⟩
  ·left
   rw[List.getElem?_set_ne e] at h
   exact⟨by omega,h⟩
 ·left
  have e1:stD D f.line 0 (draftL f.b.cls)=D:=by
   unfold stD
   rw[if_neg]
   unfold thB;simp;omega
  rw[e1,upD_out hin] at h
  have hi:=(List.getElem?_eq_some_iff.1 h).1
  exact⟨by omega,h⟩
theorem wl_at:∀{fs:List Fnd} {D:List Ce} {i:Nat} {c':Ce},(∀f∈fs,(draftL f.b.cls).length=64)→(wl D fs)[i]? =some c'→(D[i]? =some c'∧∀f∈fs,f.line≠(i:Nat))∨(∃f∈fs,f.line=(i:Nat)∧c'.now.1=draftL f.b.cls∧c'.way=c'.now∧c'.sent=true)
 |[],D,i,c',_,h=> .inl ⟨h,by simp⟩
 |f::r,D,i,c',hl,h=>by
  have h8:(wl (wip1 D f) r)[i]? =some c':=h
  rcases wl_at (fun g hg=>hl g (by simp[hg])) h8 with⟨h1,h2⟩|⟨g,hg,h2⟩
  ·rcases wip1_at (hl f (by simp)) h1 with⟨h3,h4⟩|h3
   ·exact .inl ⟨h4,fun g hg=>by rcases List.mem_cons.1 hg with rfl|hg;exact h3;exact h2 g hg⟩
   ·exact .inr ⟨f,by simp,h3⟩
  ·exact .inr ⟨g,by simp[hg],h2⟩
theorem nextW_take {q:Fnd→Bool}:∀{l:List Fnd} {y:Nat×Fnd},nextW q l=some y→(l.take (y.1+1)).filter q=[y.2]
 |[],y,h=>by cases h
 |f::r,y,h=>by
  unfold nextW at h
  split at h
  ·rename_i hq
   simp only[Option.some.injEq] at h
   subst h
   simp[hq]
  ·rename_i hq
   rw[Option.map_eq_some_iff] at h
   obtain⟨z,hz,rfl⟩:=h
   have h8:=nextW_take hz
   simp only[List.take_succ_cons,List.filter_cons,hq]
   simpa using h8
theorem nextW_none {q:Fnd→Bool}:∀{l:List Fnd},nextW q l=none→l.filter q=[]
 |[],_=>rfl
 |f::r,h=>by
  unfold nextW at h
  split at h
  ·cases h
  ·rename_i hq
   rw[Option.map_eq_none_iff] at h
   simp only[List.filter_cons,hq]
   simpa using nextW_none h
def fds (D:List Ce)(m:Int):List Fnd:=(List.range m.toNat).filterMap fun i=>scN D (i:Nat)
theorem fds_succ (D:List Ce){m:Int}(h:0≤m):fds D (m+1)=scFd D m (fds D m):=by
 unfold fds scFd
 rw[show(m+1).toNat=m.toNat+1 by omega,List.range_succ,List.filterMap_append]
 have e:List.filterMap (fun i:Nat=>scN D (i:Nat)) [m.toNat]=(scN D m).toList:=by
  simp only[List.filterMap_cons,List.filterMap_nil]
  rw[show((m.toNat:Nat):Int)=m by omega]
  cases scN D m<;>rfl
 rw[e]
 cases scN D m<;>simp
structure Cln (D0:List Ce)(v:Dev)(c:Cor):Prop where
 p2:c.ph≤2→v.D=D0
 f1:c.ph=1→c.fd=fds D0 c.nx
 f2:2≤c.ph→c.ph≤6→c.fd=fds D0 (slabsF D0.length*8)
 p3:c.ph=3→v.D=wl D0 ((c.fd.take c.nx.toNat).filter (scrubF c.e c.fd))
 p4:c.ph=4→v.D=wl ((wl D0 (c.fd.filter (scrubF c.e c.fd))).map fenB) ((c.fd.take c.nx.toNat).filter (antiF c.e))
 p5:5≤c.ph→c.ph≤6→v.D=(wl ((wl D0 (c.fd.filter (scrubF c.e c.fd))).map fenB) (c.fd.filter (antiF c.e))).map fenB
theorem take_more {q:Fnd→Bool}{fd:List Fnd}{nx:Int}{y:Nat×Fnd}(h0:0≤nx)(h:nextW q (fd.drop nx.toNat)=some y):(fd.take (nx+((y.1+1:Nat):Int)).toNat).filter q=(fd.take nx.toNat).filter q++[y.2]:=by
 rw[show(nx+((y.1+1:Nat):Int)).toNat=nx.toNat+(y.1+1) by omega,List.take_add,List.filter_append,nextW_take h]
theorem take_all {q:Fnd→Bool}{fd:List Fnd}{nx:Int}(h:nextW q (fd.drop nx.toNat)=none):(fd.take nx.toNat).filter q=fd.filter q:=by
 have e:=nextW_none h
 conv=>rhs;rw[← List.take_append_drop nx.toNat fd,List.filter_append,e,List.append_nil]
theorem Cln.step {n:Nat}{D0:List Ce}{v:Dev}{c:Cor}(h:Cln D0 v c)(hI:Inv n v c)(hn:D0.length=n):Cln D0 (stp v c).1 (stp v c).2.1:=by
 have hp:=hI.ph
 have hnx:=hI.nx
 have hlen:=hI.len
 unfold stp
 by_cases h0:c.ph=0
 ·rw[if_pos h0]
  have hv:=h.p2 om_
  have hf:=hI.f0 h0
  simp only
  split
  ·exact⟨fun _=>hv,fun _=>by simp only;rw[List.length_eq_zero_iff.1 hf];rfl,fun h8=>absurd h8 (by simp),fun h8=>absurd h8 (by simp),fun h8=>absurd h8 (by simp),fun h8=>absurd h8 (by simp)⟩
  ·exact⟨fun _=>hv,fun h8=>absurd h8 (by simp),fun _ h8=>absurd h8 (by simp),fun h8=>absurd h8 (by simp),fun h8=>absurd h8 (by simp),fun _ h8=>absurd h8 (by simp)⟩
 rw[if_neg h0]
 by_cases h1:c.ph=1
 ·rw[if_pos h1]
  have hv:=h.p2 om_
  have hf:=h.f1 h1
  obtain⟨hn1,hn2⟩:=hI.n2 h1
  have hs:=fds_succ D0 hnx
  simp only
  unfold scC
  rw[hv,hf,← hs]
  split
  ·rename_i hh
   refine⟨fun _=>hv,fun h8=>absurd h8 (by simp),fun _ _=>?_,fun h8=>absurd h8 (by simp),fun h8=>absurd h8 (by simp),fun h8=>absurd h8 (by simp)⟩
   simp only
   rw[hn] at hh⊢
   congr 1;omega
  ·exact⟨fun _=>hv,fun _=>rfl,fun h8=>absurd h8 (by simp only;omega),fun h8=>absurd h8 (by simp only;omega),fun h8=>absurd h8 (by simp only;omega),fun h8=>absurd h8 (by simp only;omega)⟩
 rw[if_neg h1]
 by_cases h2:c.ph=2
 ·rw[if_pos h2]
  have hv:=h.p2 om_
  have hf:=h.f2 om_ om_
  simp only
  split
  ·exact⟨fun _=>hv,fun h8=>absurd h8 (by simp),fun _ _=>hf,fun _=>by simp[wl,hv],fun h8=>absurd h8 (by simp),fun h8=>absurd h8 (by simp)⟩
  ·exact⟨fun _=>hv,fun h8=>absurd h8 (by simp),fun _ h8=>absurd h8 (by simp),fun h8=>absurd h8 (by simp),fun h8=>absurd h8 (by simp),fun _ h8=>absurd h8 (by simp)⟩
 rw[if_neg h2]
 by_cases h3:c.ph=3
 ·rw[if_pos h3]
  have hv:=h.p3 h3
  have hf:=h.f2 om_ om_
  simp only
  unfold wpD wpC
  cases hq:nextW (scrubF c.e c.fd) (c.fd.drop c.nx.toNat) with
  |none=>
   refine⟨fun h8=>absurd h8 (by simp),fun h8=>absurd h8 (by simp),fun _ _=>hf,fun h8=>absurd h8 (by simp),fun _=>?_,fun h8=>absurd h8 (by simp)⟩
   show v.D.map fenB=_
   rw[hv,take_all hq];simp[wl]
  |some y=>
   refine⟨fun h8=>absurd h8 (by simp only;omega),fun h8=>absurd h8 (by simp only;omega),fun _ _=>hf,fun _=>?_,fun h8=>absurd h8 (by simp only;omega),fun h8=>absurd h8 (by simp only;omega)⟩
   show(wipeV v y.2).D=_
   rw[wipeV_D,hv]
   simp only
   rw[take_more hnx hq,wl_snoc]
 rw[if_neg h3]
 by_cases h4:c.ph=4
 ·rw[if_pos h4]
  have hv:=h.p4 h4
  have hf:=h.f2 om_ om_
  simp only
  unfold wpD wpC
  cases hq:nextW (antiF c.e) (c.fd.drop c.nx.toNat) with
  |none=>
   refine⟨fun h8=>absurd h8 (by simp),fun h8=>absurd h8 (by simp),fun _ _=>hf,fun h8=>absurd h8 (by simp),fun h8=>absurd h8 (by simp),fun _ _=>?_⟩
   show v.D.map fenB=_
   rw[hv,take_all hq]
  |some y=>
   refine⟨fun h8=>absurd h8 (by simp only;omega),fun h8=>absurd h8 (by simp only;omega),fun _ _=>hf,fun h8=>absurd h8 (by simp only;omega),fun _=>?_,fun h8=>absurd h8 (by simp only;omega)⟩
   show(wipeV v y.2).D=_
   rw[wipeV_D,hv]
   simp only
   rw[take_more hnx hq,wl_snoc]
 rw[if_neg h4]
 by_cases h5:c.ph=5
 ·rw[if_pos h5]
  exact⟨fun h8=>absurd h8 (by simp),fun h8=>absurd h8 (by simp),fun _ _=>h.f2 om_ om_,fun h8=>absurd h8 (by simp),fun h8=>absurd h8 (by simp),fun _ _=>h.p5 om_ om_⟩
 rw[if_neg h5]
 exact h
end
section
attribute [local irreducible] V.CW V.LW V.QW V.RW V.PQ V.Val V.Eff V.Qcall
open V (str byC ownV ownG ownS ownOk)
theorem look_line (D:List Ce)(line c kd:Int):(lookF D line c kd).line=line:=by
 unfold lookF
 split
 ·split<;>rfl
 ·rfl
theorem dec_may {l:List UInt8}{b:Blk}(h:decF l=some b):mayF b=true:=by
 unfold decF at h
 split at h
 ·cases h
 ·split at h
  ·rename_i hh
   simp only[Option.some.injEq] at h
   rw[← h];exact hh.2.2.1
  ·cases h
theorem look_span (D:List Ce)(line:Int){c kd:Int}(h:spanF c≠0):spanF (lookF D line c kd).b.cls≠0:=by
 unfold lookF
 split
 ·split
  ·rename_i b hb;exact may_span (dec_may hb)
  ·exact h
 ·exact h
theorem scN_line {D:List Ce}{nx:Int}{f:Fnd}(h:scN D nx=some f):f.line=2+nx:=by
 unfold scN at h
 split at h
 ·cases h
 ·split at h
  ·cases h
  ·simp only[Option.some.injEq] at h
   rw[← h];exact look_line _ _ _ _
theorem scN_span {D:List Ce}{nx:Int}{f:Fnd}(h:scN D nx=some f):spanF f.b.cls≠0:=by
 unfold scN at h
 split at h
 ·cases h
 ·rename_i c kd hh
  split at h
  ·cases h
  ·simp only[Option.some.injEq] at h
   rw[← h];exact look_span _ _ (head_some hh).2.1
theorem fds_mem {D:List Ce}{m:Int}{f:Fnd}:f∈fds D m↔∃i:Nat,i<m.toNat∧scN D (i:Nat)=some f:=by
 unfold fds
 rw[List.mem_filterMap]
 simp only[List.mem_range]
theorem draft_head {c:Int}(h:spanF c≠0):(headF (draftL c)).map Prod.snd=some 0:=by
 rcases spanF_cases c with⟨a,_⟩|⟨a,_⟩|⟨a,_⟩|⟨a,_⟩|⟨a,e⟩
 ·subst a;decide+kernel
 ·subst a;decide+kernel
 ·subst a;decide+kernel
 ·subst a;decide+kernel
 ·exact absurd e h
def Calm (D:List Ce):Prop:=∀c∈D,c.kept=c.now∧c.sent=false
theorem keep_not {e:Int}{fd:List Fnd}{f:Fnd}(h:keepF e fd f=true):scrubF e fd f=false∧antiF e f=false:=by
 have ha:antiF e f=false:=by
  unfold keepF payF at h
  unfold antiF
  simp only[Bool.and_eq_true,decide_eq_true_eq] at h
  rw[decide_eq_false h.1.2,Bool.and_false]
 exact⟨by unfold scrubF;rw[h];simp,ha⟩
theorem fen_at {D:List Ce}{i:Nat}{c':Ce}(h:(D.map fenB)[i]? =some c'):∃c,D[i]? =some c∧c'=fenB c:=by
 rw[List.getElem?_map,Option.map_eq_some_iff] at h
 obtain⟨c,h1,h2⟩:=h
 exact⟨c,h1,h2.symm⟩
theorem wiped_at {D:List Ce}{fs:List Fnd}{i:Nat}{c':Ce}(hc:Calm D)(hl:∀f∈fs,spanF f.b.cls≠0)(h:((wl D fs).map fenB)[i]? =some c'):(D[i]? =some c'∧∀f∈fs,f.line≠(i:Nat))∨(c'.kept=c'.now∧c'.sent=false∧∃f∈fs,f.line=(i:Nat)∧c'.now.1=draftL f.b.cls):=by
 obtain⟨c,h1,rfl⟩:=fen_at h
 rcases wl_at (fun f hf=>draftL_len (hl f hf)) h1 with⟨h2,h3⟩|⟨f,hf,h2,h3,h4,h5⟩
 ·have h8:=hc c (List.mem_of_getElem? h2)
  have e:fenB c=c:=by unfold fenB;rw[if_neg (by rw[h8.2];decide)]
  rw[e]
  exact .inl ⟨h2,h3⟩
 ·right
  unfold fenB
  rw[if_pos h5]
  exact⟨h4,rfl,f,hf,h2,h3⟩
theorem wiped_calm {D:List Ce}{fs:List Fnd}(hc:Calm D)(hl:∀f∈fs,spanF f.b.cls≠0):Calm ((wl D fs).map fenB):=by
 intro c hcm
 obtain⟨i,hi⟩:=List.mem_iff_getElem?.1 hcm
 rcases wiped_at hc hl hi with⟨h1,_⟩|⟨h1,h2,_⟩
 ·exact hc c (List.mem_of_getElem? h1)
 ·exact⟨h1,h2⟩
end
section
attribute [local irreducible] V.CW V.LW V.QW V.RW V.PQ V.Val V.Eff V.Qcall
open V (str byC ownV ownG ownS ownOk)
theorem phase_g (rb db:Nat)(r:Rvl)(w:World)(hB:w.heap[rb]? =some (.cells (rvC db r).toArray 130 (0,0))):Calls Tryz.prog 23 [.pointer (some ⟨rb,0,none⟩)].toArray w fun e w'=>e= .returned (.int .i64 r.ph)∧Below w.heap.size w w':=by
 refine Cb_ Tryz.func23 rfl Tryz.ntmps23<|pA_ 20 ?_
 refine Lv (Val.loadO rfl Tryz.isAgg3 (V.lt_of_some hB) (by simp[ids]) (V.cell_of_block hB rfl))<|pA_ 5 ?_
 exact fb_
theorem epoch_g (rb db:Nat)(r:Rvl)(w:World)(hB:w.heap[rb]? =some (.cells (rvC db r).toArray 130 (0,0))):Calls Tryz.prog 15 [.pointer (some ⟨rb,0,none⟩)].toArray w fun e w'=>e= .returned (.int .u64 r.e)∧Below w.heap.size w w':=by
 refine Cb_ Tryz.func15 rfl Tryz.ntmps15<|pA_ 20 ?_
 refine Lv (Val.loadO rfl Tryz.isAgg48 (V.lt_of_some hB) (by simp[ids]) (V.cell_of_block hB rfl))<|pA_ 5 ?_
 exact fb_
def runN (v:Dev)(c:Cor):Nat→Dev×Cor
 |0=>(v,c)
 |k+1=>((stp (runN v c k).1 (runN v c k).2).1,(stp (runN v c k).1 (runN v c k).2).2.1)
def cor0:Cor:=⟨0,0,0,[],[]⟩
theorem inv0 (v:Dev)(h:0<v.D.length∧v.D.length≤1000):Inv v.D.length v cor0:=⟨rfl,h,by decide,fun h8=>absurd h8 (by decide),by decide,fun _=>rfl,fun h8=>absurd h8 (by decide),by decide,fun f hf=>(by cases hf),fun h8=>absurd h8 (by decide),fun h8=>absurd h8 (by decide),fun h8=>absurd h8 (by decide)⟩
theorem cln0 (v:Dev):Cln v.D v cor0:=⟨fun _=>rfl,fun h8=>absurd h8 (by decide),fun h8=>absurd h8 (by decide),fun h8=>absurd h8 (by decide),fun h8=>absurd h8 (by decide),fun h8=>absurd h8 (by decide)⟩
theorem rvx0 (th n:Nat):RvX th n (rv0 (th:Nat)) none:=⟨rfl,⟨rfl,rfl⟩,⟨rfl,rfl⟩,fun _=>⟨rfl,rfl⟩,rfl,fun y h=>by cases h⟩
theorem runN_inv {v:Dev}(h:0<v.D.length∧v.D.length≤1000):∀k,Inv v.D.length (runN v cor0 k).1 (runN v cor0 k).2∧Cln v.D (runN v cor0 k).1 (runN v cor0 k).2
 |0=>⟨inv0 v h,cln0 v⟩
 |k+1=>by
  obtain⟨h1,h2⟩:=runN_inv h k
  exact⟨h1.step,h2.step h1 rfl⟩
end
section
attribute [local irreducible] V.CW V.LW V.QW V.RW V.PQ V.Val V.Eff V.Qcall
open V (str byC ownV ownG ownS ownOk)
instance:Cal Tryz.prog 20:=⟨Tryz.call20⟩
instance:Cal Tryz.prog 21:=⟨Tryz.call21⟩
instance:Cal Tryz.prog 22:=⟨Tryz.call22⟩
instance:Cal Tryz.prog 23:=⟨Tryz.call23⟩
theorem arena2_g (rb db:Nat)(r:Rvl)(w:World)(hB:w.heap[rb]? =some (.cells (rvC db r).toArray 130 (0,0))):Calls Tryz.prog 22 [.pointer (some ⟨rb,0,none⟩)].toArray w fun e w'=>e= .returned (.tuple #[if r.ph=6 then r.st else .pointer none,.bool (decide (r.ph=6))])∧Below w.heap.size w w':=by
 refine Cb_ Tryz.func22 rfl Tryz.ntmps22<|pA_ 15 ?_
 refine Lv (Val.loadO rfl Tryz.isAgg3 (V.lt_of_some hB) (by simp[ids]) (V.cell_of_block hB rfl))<|pA_ 4 ?_
 refine Cd_ rfl (fun h12=>?_) fun h12=>?_
 ·have h12:¬r.ph=6:=h12
  refine pA_ 9 ?_
  rw[if_neg h12,decide_eq_false h12]
  exact fb_
 ·have h12:r.ph=6:=by simpa using h12
  refine pA_ 7 ?_
  refine Lv (Val.loadO rfl Tryz.isAgg25 (V.lt_of_some hB) (by simp[ids]) (V.cell_of_block hB rfl))<|pA_ 6 ?_
  rw[if_pos h12,decide_eq_true h12]
  exact fb_
theorem step_gN (rb:Nat)(x:DvR)(v:Dev)(k:Nat)(r:Rvl)(hL:0<v.D.length∧v.D.length≤1000)(hc:corOf r=(runN v cor0 k).2)(hX:RvX 2 v.D.length r none):Mo Tryz.prog 21 [.pointer (some ⟨rb,0,none⟩)] (rvS rb x.db r++vS x (runN v cor0 k).1) (fun q:Rvl×Option (ArR×ArS)=>corOf q.1=(runN v cor0 (k+1)).2∧RvX 2 v.D.length q.1 q.2) (fun _=> .int .i64 (stp (runN v cor0 k).1 (corOf r)).2.2) (fun q=>rvG rb x (runN v cor0 (k+1)).1 q.1 q.2):=by
 intro w hs
 have hi:=(runN_inv hL k).1
 have hl:=hi.len
 rw[← hc] at hi
 have h8:=step_g rb x (runN v cor0 k).1 r none 2 om_ om_ (by rw[hl];exact hi) (by rw[hl];exact hX) w hs
 rw[hl,hc] at h8
 rw[hc]
 exact h8
theorem stepN_pot {v:Dev}{k:Nat}{r:Rvl}(hL:0<v.D.length∧v.D.length≤1000)(hc:corOf r=(runN v cor0 k).2)(h6:r.ph<6):pot v.D.length (runN v cor0 (k+1)).2+1≤pot v.D.length (corOf r):=by
 have hi:=(runN_inv hL k).1
 rw[← hc] at hi
 have h8:=hi.pot_step h6
 rw[hc] at h8⊢
 exact h8
theorem to22_g (x:DvR)(v:Dev)(hL:0<v.D.length∧v.D.length≤1000)(hpo:pot v.D.length cor0≤600):Mo Tryz.prog 14 [.pointer (some ⟨x.db,0,none⟩)] (vS x v) (fun z:Nat×Nat×Rvl×Option (ArR×ArS)=>6≤z.2.2.1.ph∧corOf z.2.2.1=(runN v cor0 z.2.1).2∧RvX 2 v.D.length z.2.2.1 z.2.2.2) (fun z=> .tuple #[.pointer (some ⟨z.1,0,none⟩),(if z.2.2.1.ph=6 then z.2.2.1.st else .pointer none),.bool (decide (z.2.2.1.ph=6))]) (fun z=>rvG z.1 x (runN v cor0 z.2.1).1 z.2.2.1 z.2.2.2):=by
 intro w hs
 refine Ca_ Tryz.func14 rfl Tryz.ntmps14 hs<|pA_ 10 ?_
 refine Le (Cn_ (rnew2_g x.db 2 om_)) fun rb _=>pA_ 16 ?_
 refine LW.re 20 (.bool false) rfl (by rfl)<|pA_ 12 ?_
 refine loopA (γ:=Nat×Rvl×Option (ArR×ArS)) (fun z=>[(5,.pointer (some ⟨rb,0,none⟩)),(7,.int .i64 (z.1:Nat))]) (fun z=>rvG rb x (runN v cor0 z.1).1 z.2.1 z.2.2) (fun z=>corOf z.2.1=(runN v cor0 z.1).2∧RvX 2 v.D.length z.2.1 z.2.2∧(z.1:Int)+pot v.D.length (corOf z.2.1)≤600) (fun z=>600-z.1) ((0,rv0 2,none)) ⟨rfl,rvx0 2 _,by show((0:Nat):Int)+pot v.D.length cor0≤600;omega⟩ fun z=>?_
 rintro⟨hc,hX,hpt⟩
 refine pA_ 6 ?_
 refine LW.split (d:=23) rfl (fun h23=>?_) (fun h23=>?_)
 ·replace h23:=bT h23
  have h22:z.1<600:=by omega
  refine Lv Mv<|Le (CV fun w hw=>phase_g rb x.db z.2.1 w hw.at) fun _ _=>pA_ 4 ?_
  refine Cd_ rfl (fun h27=>?_) fun h27=>?_
  ·obtain⟨k,r,ar⟩:=z
   have h26:r.ph<6:=h27
   obtain rfl:ar=none:=by
    cases ar with
    |none=>rfl
    |some y=>have h8:=hX.has;rw[decide_eq_false (by simp only at h26⊢;omega)] at h8;cases h8
   refine pA_ 6 ?_
   refine Le (Cm_ (step_gN rb x v k r hL hc hX)) fun q hq=>?_
   obtain⟨r2,ar2⟩:=q
   obtain⟨hq1,hq2⟩:=hq
   rcases ar2 with _|y
   ·skip
    refine pA_ 8 ?_
    exact roundA ((k+1,r2,_)) ⟨hq1,hq2,by have:=stepN_pot hL hc h26;rw[hq1];simp only at hpt this⊢;omega⟩ (by simp only;omega)
   ·skip
    refine pA_ 8 ?_
    exact roundA ((k+1,r2,_)) ⟨hq1,hq2,by have:=stepN_pot hL hc h26;rw[hq1];simp only at hpt this⊢;omega⟩ (by simp only;omega)
  ·refine pA_ 8 ?_
   refine Le (CV fun w hw=>arena2_g rb x.db z.2.1 w hw.at) fun _ _=>pA_ 13 ?_
   refine LW.split (d:=40) rfl (fun h40=>?_) (fun h40=>?_)
   ·replace h40:=bT h40
    obtain⟨y,hy⟩:∃y,z.2.2=some y:=by
     have h8:=hX.has
     rw[decide_eq_true h40] at h8
     exact Option.isSome_iff_exists.1 h8
    have hst:=(hX.got y hy).2
    refine Lv Mv<|LW.re 41 (.pointer (some ⟨y.1.a,0,none⟩)) rfl (by rw[if_pos h40,hst])<|pA_ 8 ?_
    refine Rt3 ?_
    have hi:=(runN_inv hL z.1).1
    rw[← hc] at hi
    have hpn:=hi.pot_nn
    have h9:(corOf z.2.1).ph=z.2.1.ph:=rfl
    have hend:6≤z.2.1.ph:=by
     have h8:=hpn.2
     rw[h9] at h8
     by_cases e:z.1<600
     ·omega
     ·exact h8 om_
    intro w' hw;exact⟨(rb,z.1,z.2.1,z.2.2),⟨hend,hc,hX⟩,by simp only[decide_eq_true h40],hw⟩
   ·replace h40:=bF h40
    refine pA_ 9 ?_
    refine Rt3 ?_
    have hi:=(runN_inv hL z.1).1
    rw[← hc] at hi
    have hpn:=hi.pot_nn
    have h9:(corOf z.2.1).ph=z.2.1.ph:=rfl
    have hend:6≤z.2.1.ph:=by
     have h8:=hpn.2
     rw[h9] at h8
     by_cases e:z.1<600
     ·omega
     ·exact h8 om_
    intro w' hw;exact⟨(rb,z.1,z.2.1,z.2.2),⟨hend,hc,hX⟩,by simp only[decide_eq_false h40],hw⟩
 ·replace h23:=bF h23
  refine pA_ 15 ?_
  refine Le (CV fun w hw=>arena2_g rb x.db z.2.1 w hw.at) fun _ _=>pA_ 13 ?_
  refine LW.split (d:=40) rfl (fun h40=>?_) (fun h40=>?_)
  ·replace h40:=bT h40
   obtain⟨y,hy⟩:∃y,z.2.2=some y:=by
    have h8:=hX.has
    rw[decide_eq_true h40] at h8
    exact Option.isSome_iff_exists.1 h8
   have hst:=(hX.got y hy).2
   refine Lv Mv<|LW.re 41 (.pointer (some ⟨y.1.a,0,none⟩)) rfl (by rw[if_pos h40,hst])<|pA_ 8 ?_
   refine Rt3 ?_
   have hi:=(runN_inv hL z.1).1
   rw[← hc] at hi
   have hpn:=hi.pot_nn
   have h9:(corOf z.2.1).ph=z.2.1.ph:=rfl
   have hend:6≤z.2.1.ph:=by
    have h8:=hpn.2
    rw[h9] at h8
    by_cases e:z.1<600
    ·omega
    ·exact h8 om_
   intro w' hw;exact⟨(rb,z.1,z.2.1,z.2.2),⟨hend,hc,hX⟩,by simp only[decide_eq_true h40],hw⟩
  ·replace h40:=bF h40
   refine pA_ 9 ?_
   refine Rt3 ?_
   have hi:=(runN_inv hL z.1).1
   rw[← hc] at hi
   have hpn:=hi.pot_nn
   have h9:(corOf z.2.1).ph=z.2.1.ph:=rfl
   have hend:6≤z.2.1.ph:=by
    have h8:=hpn.2
    rw[h9] at h8
    by_cases e:z.1<600
    ·omega
    ·exact h8 om_
   intro w' hw;exact⟨(rb,z.1,z.2.1,z.2.2),⟨hend,hc,hX⟩,by simp only[decide_eq_false h40],hw⟩
end
section
attribute [local irreducible] V.CW V.LW V.QW V.RW V.PQ V.Val V.Eff V.Qcall
open V (str byC ownV ownG ownS ownOk)
instance:Cal Tryz.prog 50:=⟨Tryz.call50⟩
instance:Inhabited Fnd:=⟨fd0⟩
theorem fd_oneF (l:List Fnd):(l.flatMap fdC).all (·.oneCell')=true:=by
 induction l with
 |nil=>rfl
 |cons f r ih=>rw[List.flatMap_cons,List.all_append,ih];rfl
theorem cloneFd_c (l:List Fnd)(p:Option Addr)(c:Nat)(hl:l.length≤1000)(w:World)(h:V.slAt w p 9 fdC l):Calls Tryz.prog 50 [.slice p l.length c].toArray w fun e w'=>∃o:V.OwnO,ownOk 9 l.length (l.flatMap fdC) o∧e= .returned (ownV l.length o)∧Hp ⟨w,[]⟩ [ownG 146 (l.flatMap fdC) o] w':=by
 refine Cb_ Tryz.func50 rfl Tryz.ntmps50<|pA_ 9 ?_
 refine Lv (Val.eqSlNil rfl rfl Tryz.underlying60)<|Nl<|Ps ?_
 refine Cd_ rfl (fun h4=>?_) fun h4=>?_
 ·have hpn:p=none:=by cases p with|none=>rfl|some q=>simp at h4
  obtain rfl:l=[]:=by
   rcases h with h|⟨b,o,h,_⟩
   ·exact h
   ·rw[hpn] at h;cases h
  refine pA_ 8 ?_
  intro w' hw;exact⟨none,⟨rfl,rfl⟩,rfl,hw.perm (.refl _)⟩
 ·refine pA_ 4 ?_
  refine Le (Eff.buildSlice0 Tryz.underlying60 Tryz.sizeOf146) fun b5 _=>Lv Mv<|Le (Eff.appendAny (l.flatMap fdC) (sz:=9) (bytes:=88) (z:= .agg #[.int .i64 0,.bool false,.int .i64 0,.int .i64 0,.int .u64 0,.int .u64 0,.int .u64 0,.string ⟨#[]⟩,.string ⟨#[]⟩]) (xs:=[]) (m0:=0) (o:=some (b5,[],0)) (m:=l.length) (pk:=[ownG 146 [] (some (b5,[],0))]) rfl rfl Tryz.underlying60 kr_ rfl om_ pk_ (by simp) ⟨rfl,rfl⟩ (V.flatMap_len fdC_len _) (fun hm0=>by obtain⟨b8,o8,h8,h9⟩:=sl_range (F:=[]) fdC_len h hm0 (by simp);exact⟨b8,o8,h8,fun w1 hw1=>h9 w1 hw1⟩) (fd_oneF l) om_ om_) fun o2 ho2=>?_
  have h2:ownOk 9 l.length (l.flatMap fdC) o2:=by simpa using ho2
  rw[List.nil_append,Nat.zero_add]
  refine pA_ 5 ?_
  exact fi_ o2 h2
theorem kept_g (rb db:Nat)(r:Rvl)(hk:ownOk 9 r.kp.length (r.kp.flatMap fdC) r.ko)(hl:r.kp.length≤1000):Mo Tryz.prog 24 [.pointer (some ⟨rb,0,none⟩)] ([rvO rb db r]::[ownG 146 (r.kp.flatMap fdC) r.ko]) (fun o:V.OwnO=>ownOk 9 r.kp.length (r.kp.flatMap fdC) o) (fun o=>ownV r.kp.length o) (fun o=>[ownG 146 (r.kp.flatMap fdC) o,[rvO rb db r],ownG 146 (r.kp.flatMap fdC) r.ko]):=by
 intro w hs
 obtain⟨pd,cd,hvd,hsd⟩:=own_slF r.kp r.ko hk
 refine Ca_ Tryz.func24 rfl Tryz.ntmps24 hs<|pA_ 20 ?_
 refine Lv (Ld (v:=ownV r.kp.length r.ko))<|LW.re 8 (.slice pd r.kp.length cd) rfl hvd<|Le (CM [] fun w hw hs=>cloneFd_c r.kp pd cd hl w (hsd hw pk_)) fun o ho=>pA_ 5 ?_
 exact fi_ o ho
end
section
attribute [local irreducible] V.CW V.LW V.QW V.RW V.PQ V.Val V.Eff V.Qcall
open V (str byC ownV ownG ownS ownOk)
end
section
attribute [local irreducible] V.CW V.LW V.QW V.RW V.PQ V.Val V.Eff V.Qcall
open V (str byC ownV ownG ownS ownOk)
end
section
attribute [local irreducible] V.CW V.LW V.QW V.RW V.PQ V.Val V.Eff V.Qcall
open V (str byC ownV ownG ownS ownOk)
end
section
attribute [local irreducible] V.CW V.LW V.QW V.RW V.PQ V.Val V.Eff V.Qcall
open V (str byC ownV ownG ownS ownOk)
def layB (v:Int)(i:Nat):UInt8:=UInt8.ofNat (v.toNat/256^i%256)
def layF (n:Nat)(v:Int):List UInt8:=(List.range n).map (layB v)
theorem layF_len (n:Nat)(v:Int):(layF n v).length=n:=by unfold layF;simp
theorem layF_succ (n:Nat)(v:Int):layF (n+1) v=layF n v++[layB v n]:=by unfold layF;rw[List.range_succ,List.map_append];rfl
theorem shB_lay {v:Int}(h:0≤v∧v<18446744073709551616){i:Nat}(hi:i<8):shB v i=layB v i:=by
 obtain⟨n,rfl⟩:∃n:Nat,v=n:=⟨v.toNat,by omega⟩
 unfold shB layB
 congr 1
 rw[IntKind.wrap_u8,Int.toNat_natCast]
 have hb:IntKind.u64.bits=64:=rfl
 have key:∀m:Nat,(2:Int)^m=((2^m:Nat):Int):=fun m=>by simp
 have e:(min ((8:Int)*(i:Nat)).toNat IntKind.u64.bits)=8*i:=by rw[hb];omega
 rw[e,key,Int.fdiv_eq_ediv_of_nonneg _ (Int.natCast_nonneg _),show(2:Nat)^(8*i)=256^i by rw[Nat.pow_mul]]
 rw[← Int.natCast_ediv]
 omega
theorem putN_lay (l:List UInt8)(at_:Nat){v:Int}(h:0≤v∧v<18446744073709551616):∀{n:Nat},n≤8→at_+n≤l.length→putN l at_ v n=l.take at_++layF n v++l.drop (at_+n)
 |0,_,h2=>by simp[putN,layF]
 |n+1,h1,h2=>by
  have ih:=putN_lay l at_ h (n:=n) om_ om_
  have hl:(l.take at_++layF n v).length=at_+n:=by rw[List.length_append,List.length_take,layF_len];omega
  rw[putN,ih,List.set_append_right _ _ om_,hl,Nat.sub_self,shB_lay h om_,List.drop_eq_getElem_cons (show at_+n<l.length by omega),List.set_cons_zero,layF_succ]
  simp[Nat.add_assoc]
def nmF (l:List UInt8):Nat:=l.foldr (fun b v=>b.toNat+256*v) 0
theorem nmF_lt:∀l:List UInt8,nmF l<256^l.length
 |[]=>by simp[nmF]
 |b::l=>by
  have ih:=nmF_lt l
  have hb:=b.toNat_lt
  show b.toNat+256*nmF l<256^(l.length+1)
  rw[Nat.pow_succ]
  omega
theorem nmF_snoc (b:UInt8):∀l:List UInt8,nmF (l++[b])=nmF l+256^l.length*b.toNat
 |[]=>by simp[nmF]
 |a::l=>by
  have ih:=nmF_snoc b l
  show a.toNat+256*nmF (l++[b])=a.toNat+256*nmF l+256^(l.length+1)*b.toNat
  rw[ih,Nat.pow_succ,Nat.mul_add,Nat.mul_comm (256^l.length) 256,Nat.mul_assoc]
  omega
theorem getStep_num {v:Nat}{b:UInt8}{i:Nat}(hi:i<8)(hv:v<256^i):getStep (v:Nat) b i=((v+256^i*b.toNat:Nat):Int):=by
 have hb:=b.toNat_lt
 have hp:(256:Nat)^i=2^(8*i):=by rw[Nat.pow_mul]
 have hle:(256:Nat)^i*256≤18446744073709551616:=by
  rw[← Nat.pow_succ]
  exact Nat.le_trans (Nat.pow_le_pow_right om_ (show i+1≤8 by omega)) (by decide)
 have hm:256^i*b.toNat+256^i≤18446744073709551616:=by
  have:256^i*(b.toNat+1)≤256^i*256:=Nat.mul_le_mul_left _ om_
  rw[Nat.mul_add,Nat.mul_one] at this
  omega
 have e:(min ((8:Int)*(i:Nat)).toNat IntKind.u64.bits)=8*i:=by rw[show IntKind.u64.bits=64 from rfl];omega
 unfold getStep
 rw[e,show(2:Int)^(8*i)=((2^(8*i):Nat):Int) by simp,← hp,IntWalk.u64_in ((b.toNat:Nat):Int) om_,← Int.natCast_mul,IntWalk.u64_in ((b.toNat*256^i:Nat):Int) (by rw[Nat.mul_comm];omega)]
 have h1:(BitVec.ofInt IntKind.u64.bits ((v:Nat):Int)).toNat=v:=by
  rw[show IntKind.u64.bits=64 from rfl,BitVec.ofInt_natCast,BitVec.toNat_ofNat]
  exact Nat.mod_eq_of_lt om_
 have h2:(BitVec.ofInt IntKind.u64.bits ((b.toNat*256^i:Nat):Int)).toNat=b.toNat*256^i:=by
  rw[show IntKind.u64.bits=64 from rfl,BitVec.ofInt_natCast,BitVec.toNat_ofNat]
  exact Nat.mod_eq_of_lt (by rw[Nat.mul_comm];omega)
 rw[BitVec.toNat_or,h1,h2]
 have h3:v|||b.toNat*256^i=v+256^i*b.toNat:=by
  have h4:=Nat.shiftLeft_add_eq_or_of_lt (b:=v) (i:=8*i) (by rw[← hp];exact hv) b.toNat
  rw[Nat.shiftLeft_eq,← hp] at h4
  rw[Nat.or_comm,← h4,Nat.mul_comm];omega
 rw[h3,IntWalk.u64_in _ om_]
theorem getN_num (l:List UInt8)(at_:Nat):∀{n:Nat},n≤8→at_+n≤l.length→getN l at_ n=((nmF ((l.drop at_).take n):Nat):Int)
 |0,_,_=>by simp[getN,nmF]
 |n+1,h1,h2=>by
  have ih:=getN_num l at_ (n:=n) om_ om_
  have hx:(l.drop at_)[n]? =some (l[at_+n]'om_):=by rw[List.getElem?_drop];exact List.getElem?_eq_getElem _
  have hd:l.getD (at_+n) 0=l[at_+n]'om_:=by rw[List.getD_eq_getElem?_getD,List.getElem?_eq_getElem om_];rfl
  have hl:((l.drop at_).take n).length=n:=by rw[List.length_take,List.length_drop];omega
  have hlt:=nmF_lt ((l.drop at_).take n)
  rw[hl] at hlt
  rw[getN,ih,hd,getStep_num om_ hlt,List.take_add_one,hx,Option.toList_some,nmF_snoc,hl]
theorem xorI_rng (a b:Int):0≤xorI a b∧xorI a b<4294967296:=by
 unfold xorI
 rw[IntKind.wrap_u32]
 omega
theorem xorI_twice {a:Int}(h:0≤a∧a<4294967296)(m:Int):xorI (xorI a m) m=a:=by
 obtain⟨n,rfl⟩:∃n:Nat,a=n:=⟨a.toNat,by omega⟩
 unfold xorI
 rw[IntKind.wrap_u32,IntKind.wrap_u32]
 have hb:IntKind.u32.bits=32:=rfl
 have e:((((BitVec.ofInt IntKind.u32.bits ((n:Nat):Int)^^^BitVec.ofInt IntKind.u32.bits m).toNat:Nat):Int)%4294967296)=(((BitVec.ofInt IntKind.u32.bits ((n:Nat):Int)^^^BitVec.ofInt IntKind.u32.bits m).toNat:Nat):Int):=by
  have h8:=(BitVec.ofInt IntKind.u32.bits ((n:Nat):Int)^^^BitVec.ofInt IntKind.u32.bits m).isLt
  have h9:(2:Nat)^IntKind.u32.bits=4294967296:=by decide
  rw[h9] at h8
  omega
 rw[e,BitVec.ofInt_natCast,BitVec.ofNat_toNat,BitVec.setWidth_eq,BitVec.xor_assoc,BitVec.xor_self,BitVec.xor_zero,BitVec.ofInt_natCast,BitVec.toNat_ofNat,show(2:Nat)^IntKind.u32.bits=4294967296 by decide]
 omega
theorem stepOne_rng {c:Int}(h:0≤c∧c<4294967296):0≤stepOne c∧stepOne c<4294967296:=by
 unfold stepOne
 split
 ·rw[IntKind.wrap_u32];omega
 ·exact xorI_rng _ _
theorem stepK_rng:∀{k:Nat} {c:Int},0≤c∧c<4294967296→0≤stepK k c∧stepK k c<4294967296
 |0,c,h=>h
 |k+1,c,h=>stepOne_rng (stepK_rng h)
theorem stepB_rng (c:Int)(b:UInt8):0≤stepB c b∧stepB c b<4294967296:=stepK_rng (xorI_rng _ _)
theorem fold_rng:∀(l:List UInt8) {c:Int},0≤c∧c<4294967296→0≤l.foldl stepB c∧l.foldl stepB c<4294967296
 |[],c,h=>h
 |b::l,c,h=>fold_rng l (stepB_rng c b)
theorem addF_sum (a b:List UInt8):addF (sumF a) b=sumF (a++b):=by
 unfold addF sumF
 rw[xorI_twice (fold_rng a (xorI_rng _ _)),List.foldl_append]
theorem sumF_rng (l:List UInt8):0≤sumF l∧sumF l<4294967296:=xorI_rng _ _
def wholeF (b:List UInt8):List UInt8:=b++layF 4 (sumF b)++List.replicate 51 0
theorem seal_whole {b:List UInt8}(h:b.length=9):sealL b=wholeF b:=by
 have hr:=sumF_rng b
 unfold sealL wholeF
 rw[IntWalk.u64_in _ om_,putN_lay _ _ ⟨by omega,by omega⟩ om_ (by rw[padB_len om_];omega)]
 unfold padB
 rw[List.take_append_of_le_length om_,List.take_of_length_le om_,List.drop_append,List.drop_eq_nil_iff.2 om_,h,List.drop_replicate]
 simp
theorem clock_whole {v:Int}(h:0≤v∧v<18446744073709551616):clockL v=wholeF (3::layF 8 v):=by
 unfold clockL
 rw[putN_lay _ _ h om_ (by decide)]
 have e:clkBase.take 1++layF 8 v++clkBase.drop (1+8)=3::layF 8 v:=by
  rw[show clkBase.take 1=[3] from rfl,show clkBase.drop (1+8)=[] from rfl];simp
 rw[e]
 exact seal_whole (by rw[List.length_cons,layF_len])
theorem super_whole {x:Int}(h:0≤x∧x≤258):superL x=wholeF ([4,70,85,83,69]++layF 4 x):=by
 unfold superL
 rw[IntWalk.u64_in _ om_,putN_lay _ _ ⟨by omega,by omega⟩ om_ (by decide)]
 have e:supBase.take 5++layF 4 x++supBase.drop (5+4)=[4,70,85,83,69]++layF 4 x:=by
  rw[show supBase.take 5=[4,70,85,83,69] from rfl,show supBase.drop (5+4)=[] from rfl];simp
 rw[e]
 exact seal_whole (by rw[List.length_append,layF_len];rfl)
def hd32 (x:Blk):List UInt8:=[1,byteF x.cls,byteF x.kind,byteF x.key.length]++layF 2 (x.val.length:Nat)++[0,0]++layF 8 x.id++layF 8 x.ver++layF 8 x.ep
theorem hd32_len (x:Blk):(hd32 x).length=32:=by unfold hd32;simp[layF_len]
def numOk (x:Blk):Prop:=(0≤x.id∧x.id<18446744073709551616)∧(0≤x.ver∧x.ver<18446744073709551616)∧(0≤x.ep∧x.ep<18446744073709551616)∧x.val.length≤60000
theorem putL_of {l:List UInt8}{a n:Nat}{v:Int}(hf:fitB v n=true)(h:0≤v∧v<18446744073709551616)(hn:n≤8)(hl:a+n≤l.length):putL l a n v=l.take a++layF n v++l.drop (a+n):=by
 unfold putL
 rw[if_pos hf,putN_lay l a h hn hl]
theorem fit8 (v:Int):fitB v 8=true:=by unfold fitB;simp
theorem fit2 {v:Int}(h:0≤v∧v<65536):fitB v 2=true:=by
 unfold fitB
 rw[show(2:Int)^(min ((8:Int)*((2:Nat):Int)).toNat IntKind.u64.bits)=65536 by decide,Int.fdiv_eq_ediv_of_nonneg _ om_]
 have:v/65536=0:=by omega
 rw[this];simp
theorem fit4 {v:Int}(h:0≤v∧v<4294967296):fitB v 4=true:=by
 unfold fitB
 rw[show(2:Int)^(min ((8:Int)*((4:Nat):Int)).toNat IntKind.u64.bits)=4294967296 by decide,Int.fdiv_eq_ediv_of_nonneg _ om_]
 have:v/4294967296=0:=by omega
 rw[this];simp
theorem splice_at {A B C:List UInt8}{a n:Nat}{L:List UInt8}(ha:A.length=a)(hb:B.length=n)(hL:L.length=n):(A++(B++C)).take a++L++(A++(B++C)).drop (a+n)=A++(L++C):=by
 subst ha
 rw[List.take_append_of_le_length om_,List.take_of_length_le om_,List.drop_append,List.drop_eq_nil_iff.2 om_,Nat.add_sub_cancel_left,List.drop_append,List.drop_eq_nil_iff.2 om_,hb,Nat.sub_self]
 simp
theorem headD_eq {x:Blk}(h:numOk x):headD x=hd32 x++List.replicate 32 0:=by
 obtain⟨h1,h2,h3,h4⟩:=h
 have e0:headPre x=[1,byteF x.cls,byteF x.kind,byteF x.key.length]++(List.replicate 2 0++List.replicate 58 0):=by
  unfold headPre
  rfl
 have e1:headA x=[1,byteF x.cls,byteF x.kind,byteF x.key.length]++(layF 2 (x.val.length:Nat)++List.replicate 58 0):=by
  unfold headA
  rw[IntWalk.u64_in _ om_,putL_of (fit2 om_) om_ om_ (by rw[headPre_len];omega),e0]
  exact splice_at rfl (by simp) (layF_len _ _)
 have e2:headB x=([1,byteF x.cls,byteF x.kind,byteF x.key.length]++layF 2 (x.val.length:Nat)++[0,0])++(layF 8 x.id++List.replicate 48 0):=by
  unfold headB
  rw[putL_of (fit8 _) h1 om_ (by rw[headA_len];omega),e1]
  have e:[1,byteF x.cls,byteF x.kind,byteF x.key.length]++(layF 2 (x.val.length:Nat)++List.replicate 58 0)=([1,byteF x.cls,byteF x.kind,byteF x.key.length]++layF 2 (x.val.length:Nat)++[0,0])++(List.replicate 8 0++List.replicate 48 0):=by
   simp only[List.append_assoc];rfl
  rw[e]
  exact splice_at (by simp[layF_len]) (by simp) (layF_len _ _)
 have e3:headC x=([1,byteF x.cls,byteF x.kind,byteF x.key.length]++layF 2 (x.val.length:Nat)++[0,0]++layF 8 x.id)++(layF 8 x.ver++List.replicate 40 0):=by
  unfold headC
  rw[putL_of (fit8 _) h2 om_ (by rw[headB_len];omega),e2]
  have e:([1,byteF x.cls,byteF x.kind,byteF x.key.length]++layF 2 (x.val.length:Nat)++[0,0])++(layF 8 x.id++List.replicate 48 0)=([1,byteF x.cls,byteF x.kind,byteF x.key.length]++layF 2 (x.val.length:Nat)++[0,0]++layF 8 x.id)++(List.replicate 8 0++List.replicate 40 0):=by
   simp only[List.append_assoc];rfl
  rw[e]
  exact splice_at (by simp[layF_len]) (by simp) (layF_len _ _)
 unfold headD
 rw[putL_of (fit8 _) h3 om_ (by rw[headC_len];omega),e3]
 have e:([1,byteF x.cls,byteF x.kind,byteF x.key.length]++layF 2 (x.val.length:Nat)++[0,0]++layF 8 x.id)++(layF 8 x.ver++List.replicate 40 0)=([1,byteF x.cls,byteF x.kind,byteF x.key.length]++layF 2 (x.val.length:Nat)++[0,0]++layF 8 x.id++layF 8 x.ver)++(List.replicate 8 0++List.replicate 32 0):=by
  simp only[List.append_assoc];rfl
 rw[e,splice_at (by simp[layF_len]) (by simp) (layF_len _ _)]
 unfold hd32
 simp only[List.append_assoc]
theorem headL_eq {x:Blk}{dt:List UInt8}(h:numOk x):headL x dt=hd32 x++layF 4 (sumF (hd32 x++dt))++dt.take 28:=by
 have hs:=sumF_rng (hd32 x++dt)
 have e1:(headD x).take 32=hd32 x:=by rw[headD_eq h,List.take_append_of_le_length (by rw[hd32_len];omega),List.take_of_length_le (by rw[hd32_len];omega)]
 have e2:headE x dt=hd32 x++(layF 4 (sumF (hd32 x++dt))++List.replicate 28 0):=by
  unfold headE
  rw[e1,addF_sum,IntWalk.u64_in _ om_,putL_of (fit4 hs) om_ om_ (by rw[headD_len];omega),headD_eq h]
  have e:hd32 x++List.replicate 32 0=hd32 x++(List.replicate 4 0++List.replicate 28 0):=rfl
  rw[e]
  exact splice_at (hd32_len x) (by simp) (layF_len _ _)
 unfold headL
 rw[e2,← List.append_assoc,List.take_append_of_le_length (by rw[List.length_append,hd32_len,layF_len];omega),List.take_of_length_le (by rw[List.length_append,hd32_len,layF_len];omega)]
theorem encL_eq {x:Blk}(h:numOk x):encL x=hd32 x++layF 4 (sumF (hd32 x++dataB x))++(dataB x).take 28++tailL (dataB x) (spanF x.cls-1):=by
 unfold encL
 rw[headL_eq h]
end
section
attribute [local irreducible] V.CW V.LW V.QW V.RW V.PQ V.Val V.Eff V.Qcall
open V (str byC ownV ownG ownS ownOk)
theorem store_v (x:DvR)(v:Dev)(line at_:Int)(bs:List UInt8)(p:Option Addr)(cp:Nat)(hl:bs.length≤100000)(w:World)(hs:Sat (vS x v) w)(hp:V.slAt w p 1 byE bs)(hpd:0<bs.length→∀b o,p=some ⟨b,o,none⟩→b∉V.ids (vS x v)):Calls Tryz.prog 45 [.pointer (some ⟨x.db,0,none⟩),.int .i64 line,.int .i64 at_,.slice p bs.length cp].toArray w fun e w'=>∃_u:Unit,True∧e= .returned (.int .i64 (er2 (thB v.D.length line at_ bs.length)))∧Hp ⟨w,V.ids (vS x v)⟩ (vS x (v.store line at_ bs)) w':=
 store_gc x v.D v.k line at_ bs p cp hl w hs hp hpd
end
section
attribute [local irreducible] V.CW V.LW V.QW V.RW V.PQ V.Val V.Eff V.Qcall
open V (str byC ownV ownG ownS ownOk)
instance:Cal Tryz.prog 18:=⟨Tryz.call18⟩
instance:Cal Tryz.prog 19:=⟨Tryz.call19⟩
instance:Cal Tryz.prog 24:=⟨Tryz.call24⟩
theorem aw_len:((fmtV ⟨List.replicate 10 ce0,ct0⟩)).D.length=10:=by rw[fmtV_len];rfl
theorem aw_st:∀k<13,(runN (fmtV ⟨List.replicate 10 ce0,ct0⟩) cor0 k).2.ph<6∧(stp (runN (fmtV ⟨List.replicate 10 ce0,ct0⟩) cor0 k).1 (runN (fmtV ⟨List.replicate 10 ce0,ct0⟩) cor0 k).2).2.2=0:=by decide+kernel
theorem aw_end:(runN (fmtV ⟨List.replicate 10 ce0,ct0⟩) cor0 13).2.ph=6∧(runN (fmtV ⟨List.replicate 10 ce0,ct0⟩) cor0 13).2.kp.length=0:=by decide+kernel
theorem step_gT (rb:Nat)(x:DvR)(v:Dev)(k:Nat)(r:Rvl)(th:Nat)(h1:1≤th)(h4:th≤4)(hL:0<v.D.length∧v.D.length≤1000)(hc:corOf r=(runN v cor0 k).2)(ar:Option (ArR×ArS))(hX:RvX th v.D.length r ar):Mo Tryz.prog 21 [.pointer (some ⟨rb,0,none⟩)] (rvG rb x (runN v cor0 k).1 r ar) (fun q:Rvl×Option (ArR×ArS)=>corOf q.1=(runN v cor0 (k+1)).2∧RvX th v.D.length q.1 q.2) (fun _=> .int .i64 (stp (runN v cor0 k).1 (runN v cor0 k).2).2.2) (fun q=>rvG rb x (runN v cor0 (k+1)).1 q.1 q.2):=by
 intro w hs
 have hi:=(runN_inv hL k).1
 have hl:=hi.len
 rw[← hc] at hi
 have h8:=step_g rb x (runN v cor0 k).1 r ar th h1 h4 (by rw[hl];exact hi) (by rw[hl];exact hX) w hs
 rw[hl,hc] at h8
 exact h8
theorem awake_g:Rz Tryz.prog 4 [] (.bool true):=by
 intro w
 refine Cb_ Tryz.func4 rfl Tryz.ntmps4<|pA_ 7 ?_
 refine Le (CM [] fun w hw hs0=>newDev_g 10 om_ om_ w) fun x _=>pA_ 18 ?_
 refine Le (Cm_ (format_g x (⟨List.replicate 10 ce0,ct0⟩:Dev) (by show 10≤(List.replicate 10 ce0).length∧(List.replicate 10 ce0).length≤258;rw[List.length_replicate];omega))) fun _ _=>pA_ 10 ?_
 refine Le (Cn_ (rnew2_g x.db 1 om_)) fun rb _=>pA_ 28 ?_
 refine loopA (γ:=Nat×Rvl×Option (ArR×ArS)) (fun z=>[(3,.pointer (some ⟨rb,0,none⟩)),(5,.int .i64 (z.1:Nat))]) (fun z=>rvG rb x (runN (fmtV ⟨List.replicate 10 ce0,ct0⟩) cor0 z.1).1 z.2.1 z.2.2) (fun z=>z.1≤13∧corOf z.2.1=(runN (fmtV ⟨List.replicate 10 ce0,ct0⟩) cor0 z.1).2∧RvX 1 ((fmtV ⟨List.replicate 10 ce0,ct0⟩)).D.length z.2.1 z.2.2) (fun z=>13-z.1) ((0,rv0 1,none)) ⟨Nat.zero_le _,rfl,rvx0 1 _⟩ fun z=>?_
 rintro⟨hz,hc,hX⟩
 refine pA_ 7 ?_
 refine Cd_ rfl (fun h35=>?_) fun h35=>?_
 ·have hst:=aw_st z.1 om_
  obtain⟨k,r,ar⟩:=z
  obtain⟨hst1,hst⟩:=hst
  have h26:r.ph<6:=(show (corOf r).ph<6 by rw[hc];exact hst1)
  obtain rfl:ar=none:=by
   cases ar with
   |none=>rfl
   |some y=>have h8:=hX.has;rw[decide_eq_false (by simp only at h26⊢;omega)] at h8;cases h8
  refine pA_ 7 ?_
  refine Le (Cm_ (step_gT rb x (fmtV ⟨List.replicate 10 ce0,ct0⟩) k r 1 om_ om_ ⟨by rw[aw_len];omega,by rw[aw_len];omega⟩ hc none hX)) fun q hq=>?_
  obtain⟨r2,ar2⟩:=q
  obtain⟨hq1,hq2⟩:=hq
  refine LW.re 39 (.int .i64 0) rfl (by rw[hst]) ?_
  rcases ar2 with _|y
  ·skip
   refine pA_ 12 ?_
   exact roundA ((k+1,r2,_)) ⟨by simp only;omega,hq1,hq2⟩ (by simp only;omega)
  ·skip
   refine pA_ 12 ?_
   exact roundA ((k+1,r2,_)) ⟨by simp only;omega,hq1,hq2⟩ (by simp only;omega)
 ·have hz9:z.1=13:=by omega
  have hend:=aw_end
  rw[← hz9,← hc] at hend
  obtain⟨h6',hk0'⟩:=hend
  have h6:z.2.1.ph=6:=h6'
  have hk0:z.2.1.kp.length=0:=hk0'
  refine pA_ 8 ?_
  refine Le (CV fun w hw=>arena2_g rb x.db z.2.1 w hw.at) fun _ _=>pA_ 3 ?_
  refine LW.re 45 (.bool true) rfl (by rw[decide_eq_true h6])<|pA_ 9 ?_
  refine Le (CV fun w hw=>phase_g rb x.db z.2.1 w hw.at) fun _ _=>LW.re 49 (.int .i64 6) rfl (by rw[h6])<|pA_ 4 ?_
  refine Le (Cm_ (kept_g rb x.db z.2.1 hX.kp om_)) fun o ho=>?_
  obtain⟨pd,cd,hvd,_⟩:=own_slF z.2.1.kp o ho
  refine LW.re 54 (.slice pd 0 cd) rfl (by rw[hvd,hk0])<|pA_ 8 ?_
  exact fb_
end
section
attribute [local irreducible] V.CW V.LW V.QW V.RW V.PQ V.Val V.Eff V.Qcall
open V (str byC ownV ownG ownS ownOk)
end
section
attribute [local irreducible] V.CW V.LW V.QW V.RW V.PQ V.Val V.Eff V.Qcall
open V (str byC ownV ownG ownS ownOk)
theorem tail_two (dt:List UInt8):∀k,28+63*k≤dt.length→∀j,j<k→(tailL dt k)[64*j]? =some 2
 |0,_,j,hj=>absurd hj om_
 |k+1,h,j,hj=>by
  have hl:=tailL_len dt k om_
  rw[tailL_succ]
  by_cases e:j<k
  ·rw[List.getElem?_append_left om_]
   exact tail_two dt k om_ j e
  ·obtain rfl:j=k:=by omega
   rw[List.getElem?_append_right om_,hl,Nat.sub_self];rfl
theorem enc_two {x:Blk}(h:mayF x=true){j:Nat}(h1:1≤j)(h2:j<spanF x.cls):(encL x)[64*j]? =some 2:=by
 have h3:=dataB_len h
 have h4:=capN_span (may_span h)
 unfold encL
 have hh:=headL_len x (dt:=dataB x) om_
 rw[List.getElem?_append_right om_,hh,show 64*j-64=64*(j-1) by omega]
 exact tail_two _ _ om_ _ om_
theorem lines_full {D:List Ce}{line:Int}:∀{n:Nat},(linesL D line n).length=64*n→∀j,j<n→(nowL D (line+(j:Nat))).length=64
 |0,_,j,hj=>absurd hj om_
 |n+1,h,j,hj=>by
  rw[linesL_succ,List.length_append] at h
  have h1:=linesL_le D line n
  have h2:=nowL_le D (line+(n:Nat))
  by_cases e:j<n
  ·exact lines_full om_ j e
  ·obtain rfl:j=n:=by omega
   omega
theorem lines_at {D:List Ce}{line:Int}:∀{n:Nat},(linesL D line n).length=64*n→∀j,j<n→(linesL D line n)[64*j]? =(nowL D (line+(j:Nat)))[0]?
 |0,_,j,hj=>absurd hj om_
 |n+1,h,j,hj=>by
  have hf:=lines_full h
  rw[linesL_succ,List.length_append] at h
  have h1:=linesL_le D line n
  have h2:=nowL_le D (line+(n:Nat))
  rw[linesL_succ]
  by_cases e:j<n
  ·rw[List.getElem?_append_left om_]
   exact lines_at om_ j e
  ·obtain rfl:j=n:=by omega
   rw[List.getElem?_append_right om_,show 64*j-(linesL D line j).length=0 by omega]
theorem head_one {l:List UInt8}{p:Nat×Nat}(h:headF l=some p):l[0]? =some 1:=by
 unfold headF at h
 split at h
 ·rename_i hh;exact hh.2.1
 ·cases h
theorem dec_len {l:List UInt8}{b:Blk}{c kd:Nat}(hh:headF (l.take 64)=some (c,kd))(h:decF l=some b):b=decX l c kd∧l.length=spanF c*64∧mayF b=true∧encL b=l:=by
 unfold decF at h
 rw[hh] at h
 simp only at h
 split at h
 ·rename_i h8
  simp only[Option.some.injEq] at h
  subst h
  exact⟨rfl,h8.1,h8.2.2⟩
 ·cases h
theorem lines_take {D:List Ce}{line:Int}{n:Nat}(hn:1≤n)(h:(nowL D line).length=64):(linesL D line n).take 64=nowL D line:=by
 obtain⟨m,rfl⟩:∃m,n=m+1:=⟨n-1,by omega⟩
 have e:linesL D line (m+1)=nowL D line++(List.range m).flatMap fun i:Nat=>nowL D (line+((i+1:Nat):Int)):=by
  unfold linesL
  rw[List.range_succ_eq_map,List.flatMap_cons,List.flatMap_map]
  congr 1
  simp
 rw[e,List.take_append_of_le_length om_,List.take_of_length_le om_]
theorem dec_cont {D:List Ce}{line:Int}{c kd:Nat}{b:Blk}(hh:headF (nowL D line)=some (c,kd))(h:decF (linesL D line (spanF c))=some b){j:Nat}(h1:1≤j)(h2:j<spanF c):headF (nowL D (line+(j:Nat)))=none:=by
 have hl:=(head_some hh).1
 have hs:=(head_some hh).2.1
 have ht:=lines_take (D:=D) (line:=line) (n:=spanF c) om_ hl
 obtain⟨hb,hlen,hm,he⟩:=dec_len (by rw[ht];exact hh) h
 have h3:=lines_at (D:=D) (line:=line) (n:=spanF c) om_ j h2
 rw[← he,enc_two hm h1 (by rw[hb];exact h2)] at h3
 cases e:headF (nowL D (line+(j:Nat))) with
 |none=>rfl
 |some p=>
  rw[head_one e] at h3
  cases h3
structure Wl (D D':List Ce)(L:List Fnd):Prop where
 len:D'.length=D.length
 sm:∀i:Int,(∀f∈L,f.line≠i)→nowL D' i=nowL D i
 wp:∀f∈L,∃g∈L,g.line=f.line∧nowL D' f.line=draftL g.b.cls
theorem Wl.app {D D1 D2:List Ce}{L M:List Fnd}(h:Wl D D1 L)(k:Wl D1 D2 M):Wl D D2 (L++M):=by
 refine⟨k.len.trans h.len,fun i hi=>?_,fun f hf=>?_⟩
 ·rw[k.sm i fun f hf=>hi f (List.mem_append_right _ hf),h.sm i fun f hf=>hi f (List.mem_append_left _ hf)]
 ·by_cases e:∃g∈M,g.line=f.line
  ·obtain⟨g,hg,hgl⟩:=e
   obtain⟨u,hu,h1,h2⟩:=k.wp g hg
   exact⟨u,List.mem_append_right _ hu,h1.trans hgl,by rw[← hgl];exact h2⟩
  ·have hfL:f∈L:=by
    rcases List.mem_append.1 hf with h8|h8
    ·exact h8
    ·exact absurd ⟨f,h8,rfl⟩ e
   obtain⟨u,hu,h1,h2⟩:=h.wp f hfL
   refine⟨u,List.mem_append_left _ hu,h1,?_⟩
   rw[k.sm f.line fun g hg e2=>e ⟨g,hg,e2⟩]
   exact h2
theorem lines_eq {D D':List Ce}{line:Int}:∀{n:Nat},(∀j:Nat,j<n→nowL D' (line+(j:Nat))=nowL D (line+(j:Nat)))→linesL D' line n=linesL D line n
 |0,_=>rfl
 |n+1,h=>by rw[linesL_succ,linesL_succ,lines_eq fun j hj=>h j om_,h n om_]
theorem scN_head {D:List Ce}{nx:Int}{f:Fnd}(h:scN D nx=some f):∃c kd:Nat,headF (nowL D (2+nx))=some (c,kd)∧kd≠0∧f=lookF D (2+nx) (c:Nat) (kd:Nat):=by
 unfold scN at h
 split at h
 ·cases h
 ·rename_i c kd hh
  split at h
  ·cases h
  ·rename_i hk
   simp only[Option.some.injEq] at h
   exact⟨c,kd,hh,hk,h.symm⟩
theorem look_none {D:List Ce}{line c kd:Int}(h:decF (linesL D line (spanF c))=none):lookF D line c kd=⟨line,false,⟨c,kd,0,0,0,[],[]⟩⟩:=by
 unfold lookF
 rw[h];simp
theorem look_eq {D D':List Ce}{line c kd:Int}(h:linesL D line (spanF c)=linesL D' line (spanF c)):lookF D line c kd=lookF D' line c kd:=by
 unfold lookF
 rw[h]
theorem scN_wl {D D':List Ce}{M:Int}{L:List Fnd}(hw:Wl D D' L)(hL:∀f∈L,f∈fds D M){i:Nat}(hi:(i:Int)<M):scN D' (i:Nat)=(scN D (i:Nat)).filter fun f=> !decide (f∈L):=by
 by_cases hx:∃f∈L,f.line=2+(i:Nat)
 ·obtain⟨f,hf,hfl⟩:=hx
  obtain⟨g,hg,hgl,hd⟩:=hw.wp f hf
  obtain⟨j,_,hj⟩:=fds_mem.1 (hL g hg)
  have hjl:=scN_line hj
  have hij:j=i:=by omega
  subst hij
  have hdr:=draft_head (scN_span hj)
  rw[hj]
  simp only[Option.filter,decide_eq_true hg]
  rw[hfl] at hd
  unfold scN
  rw[hd]
  cases e:headF (draftL g.b.cls) with
  |none=>rfl
  |some p=>
   rw[e] at hdr
   obtain⟨a,kd⟩:=p
   simp only[Option.map_some,Option.some.injEq] at hdr
   simp[hdr]
 ·have hsm:=hw.sm (2+(i:Nat)) fun f hf e=>hx ⟨f,hf,e⟩
  have hno:∀f,scN D (i:Nat)=some f→decide (f∈L)=false:=fun f h=>by
   rw[decide_eq_false_iff_not]
   intro hf
   exact hx ⟨f,hf,scN_line h⟩
  have e2:(scN D (i:Nat)).filter (fun f=> !decide (f∈L))=scN D (i:Nat):=by
   cases e:scN D (i:Nat) with
   |none=>rfl
   |some f=>simp[Option.filter,hno f e]
  rw[e2]
  unfold scN
  rw[hsm]
  cases hh:headF (nowL D (2+(i:Nat))) with
  |none=>rfl
  |some p=>
   obtain⟨c,kd⟩:=p
   simp only
   by_cases hk:kd=0
   ·rw[if_pos hk,if_pos hk]
   ·rw[if_neg hk,if_neg hk]
    congr 1
    by_cases hin:∃j:Nat,1≤j∧j<spanF c∧∃f∈L,f.line=2+(i:Nat)+(j:Nat)
    ·obtain⟨j,hj1,hj2,f,hf,hfl⟩:=hin
     obtain⟨m,_,hm⟩:=fds_mem.1 (hL f hf)
     have hml:=scN_line hm
     obtain⟨c2,k2,hh2,_,_⟩:=scN_head hm
     have n1:decF (linesL D (2+(i:Nat)) (spanF c))=none:=by
      cases e:decF (linesL D (2+(i:Nat)) (spanF c)) with
      |none=>rfl
      |some b=>
       have h8:=dec_cont hh e hj1 hj2
       rw[show(2:Int)+(i:Nat)+(j:Nat)=2+(m:Nat) by omega,hh2] at h8
       cases h8
     have n2:decF (linesL D' (2+(i:Nat)) (spanF c))=none:=by
      cases e:decF (linesL D' (2+(i:Nat)) (spanF c)) with
      |none=>rfl
      |some b=>
       have h8:=dec_cont (by rw[hsm];exact hh) e hj1 hj2
       obtain⟨g,hg,hgl,hd⟩:=hw.wp f hf
       obtain⟨q,_,hq⟩:=fds_mem.1 (hL g hg)
       have hdr:=draft_head (scN_span hq)
       rw[← hfl,hd] at h8
       rw[h8] at hdr
       cases hdr
     rw[look_none n1,look_none n2]
    ·refine look_eq<|lines_eq fun j hj=>?_
     by_cases hj0:j=0
     ·subst hj0
      simpa using hsm
     ·exact hw.sm _ fun f hf e=>hin ⟨j,by omega,hj,f,hf,e⟩
theorem fm_filter {α β:Type}{f f':α→Option β}{p:β→Bool}:∀{l:List α},(∀i∈l,f' i=(f i).filter p)→l.filterMap f'=(l.filterMap f).filter p
 |[],_=>rfl
 |a::l,h=>by
  have h1:=fm_filter (l:=l) fun i hi=>h i (List.mem_cons_of_mem _ hi)
  have h2:=h a List.mem_cons_self
  rw[List.filterMap_cons,List.filterMap_cons,h2]
  cases e:f a with
  |none=>exact h1
  |some x=>
   by_cases hp:p x=true
   ·simp[Option.filter,hp,h1]
   ·simp[Option.filter,hp,h1]
theorem fds_wl {D D':List Ce}{M:Int}{L:List Fnd}(hw:Wl D D' L)(hL:∀f∈L,f∈fds D M):fds D' M=(fds D M).filter fun f=> !decide (f∈L):=by
 unfold fds
 refine fm_filter fun i hi=>?_
 rw[List.mem_range] at hi
 exact scN_wl hw hL om_
theorem new_irr (e:Int)(f:Fnd):newF e f f=false:=by unfold newF;simp
theorem new_tr {e:Int}{z y x:Fnd}(h1:newF e z y=true)(h2:newF e y x=true):newF e z x=true:=by
 unfold newF at*
 simp only[Bool.and_eq_true,Bool.or_eq_true,decide_eq_true_eq] at*
 obtain⟨⟨a1,a2⟩,a3⟩:=h1
 obtain⟨⟨b1,b2⟩,b3⟩:=h2
 refine⟨⟨a1,a2.trans b2⟩,?_⟩
 rcases a3 with a3|⟨⟨a3,a4⟩,a5⟩<;>rcases b3 with b3|⟨⟨b3,b4⟩,b5⟩
 ·left;omega
 ·left;omega
 ·left;omega
 ·right;exact⟨⟨a3,by omega⟩,by omega⟩
theorem new_max {e:Int}{x:Fnd}:∀{L:List Fnd},(∃y∈L,newF e y x=true)→∃y∈L,newF e y x=true∧∀z∈L,newF e z y=false
 |[],h=>by obtain⟨y,hy,_⟩:=h;cases hy
 |a::L,h=>by
  by_cases h1:∃y∈L,newF e y x=true
  ·obtain⟨m,hm,hmx,hmm⟩:=new_max h1
   by_cases ha:newF e a m=true
   ·refine⟨a,List.mem_cons_self,new_tr ha hmx,fun z hz=>?_⟩
    rcases List.mem_cons.1 hz with rfl|hz
    ·exact new_irr _ _
    ·cases e1:newF e z a with
     |false=>rfl
     |true=>
      have h8:=hmm z hz
      rw[new_tr e1 ha] at h8
      exact h8
   ·refine⟨m,List.mem_cons_of_mem _ hm,hmx,fun z hz=>?_⟩
    rcases List.mem_cons.1 hz with rfl|hz
    ·simpa using ha
    ·exact hmm z hz
  ·obtain⟨y,hy,hyx⟩:=h
   have hya:y=a:=by
    rcases List.mem_cons.1 hy with h8|h8
    ·exact h8
    ·exact absurd ⟨y,h8,hyx⟩ h1
   subst hya
   refine⟨y,List.mem_cons_self,hyx,fun z hz=>?_⟩
   rcases List.mem_cons.1 hz with rfl|hz
   ·exact new_irr _ _
   ·cases e1:newF e z y with
    |false=>rfl
    |true=>exact absurd ⟨z,hz,new_tr e1 hyx⟩ h1
theorem keep_pay {e:Int}{F:List Fnd}{f:Fnd}(h:keepF e F f=true):payF e f=true∧∀y∈F,newF e y f=false:=by
 unfold keepF at h
 simp only[Bool.and_eq_true,Bool.not_eq_true'] at h
 exact⟨h.1,fun y hy=>by simpa using List.any_eq_false.1 h.2 y hy⟩
theorem keep_of {e:Int}{F:List Fnd}{f:Fnd}(h:payF e f=true)(hn:∀y∈F,newF e y f=false):keepF e F f=true:=by
 unfold keepF
 rw[h,List.any_eq_false.2 fun y hy=>by rw[hn y hy];decide];rfl
theorem keep_off {e:Int}{F:List Fnd}{f:Fnd}(h:payF e f=true)(hk:keepF e F f=false):∃y∈F,newF e y f=true:=by
 unfold keepF at hk
 rw[h,Bool.true_and] at hk
 have h8:(F.any fun g=>newF e g f)=true:=by simpa using hk
 rw[List.any_eq_true] at h8
 exact h8
theorem keep_wl {e:Int}{F:List Fnd}{W:Fnd→Bool}(h1:∀f∈F,W f=true→keepF e F f=false)(h2:∀f∈F,payF e f=true→keepF e F f=false→W f=false→∃y∈F,newF e y f=true∧W y=false):decK e (F.filter fun f=> !W f)=decK e F:=by
 unfold decK
 rw[List.filter_filter]
 refine List.filter_congr fun f hf=>?_
 cases hk:keepF e F f with
 |true=>
  obtain⟨a,b⟩:=keep_pay hk
  have hW:W f=false:=by
   cases hW:W f with
   |false=>rfl
   |true=>rw[h1 f hf hW] at hk;cases hk
  rw[keep_of a fun y hy=>b y (List.mem_filter.1 hy).1,hW];rfl
 |false=>
  cases hW:W f with
  |true=>simp
  |false=>
   have h8:keepF e (F.filter fun f=> !W f) f=false:=by
    cases hp:payF e f with
    |false=>unfold keepF;rw[hp];rfl
    |true=>
     obtain⟨y,hy,hn,hWy⟩:=h2 f hf hp hk hW
     unfold keepF
     rw[List.any_eq_true.2 ⟨y,List.mem_filter.2 ⟨hy,by rw[hWy];rfl⟩,hn⟩];simp
   rw[h8];rfl
theorem pay_anti {e:Int}{f:Fnd}(h:payF e f=true):antiF e f=false:=by
 unfold payF at h
 unfold antiF
 simp only[Bool.and_eq_true,decide_eq_true_eq] at h
 rw[decide_eq_false h.2,Bool.and_false]
theorem sound_or {e:Int}{f:Fnd}(h:soundF e f=true):payF e f=true∨antiF e f=true:=by
 unfold payF antiF
 rw[h]
 by_cases hk:f.b.kind=3
 ·right;simp[hk]
 ·left;simp[hk]
theorem scrub_keep {e:Int}{F:List Fnd}{f:Fnd}(h:scrubF e F f=true):keepF e F f=false∧antiF e f=false:=by
 unfold scrubF at h
 simpa[and_comm] using h
theorem keepA {e:Int}{F:List Fnd}{W:Fnd→Bool}(h:∀f∈F,W f=true→scrubF e F f=true):decK e (F.filter fun f=> !W f)=decK e F:=by
 refine keep_wl (fun f hf hW=>(scrub_keep (h f hf hW)).1) fun f hf hp hk _=>?_
 obtain⟨y,hy,hyn,hm⟩:=new_max (keep_off hp hk)
 refine⟨y,hy,hyn,?_⟩
 cases hW:W y with
 |false=>rfl
 |true=>
  exfalso
  obtain⟨a,b⟩:=scrub_keep (h y hy hW)
  have hs:soundF e y=true:=by
   unfold newF at hyn
   simp only[Bool.and_eq_true] at hyn
   exact hyn.1.1
  rcases sound_or hs with h8|h8
  ·rw[keep_of h8 hm] at a;cases a
  ·rw[h8] at b;cases b
theorem keepB {e:Int}{F:List Fnd}{W:Fnd→Bool}(h1:∀f∈F,W f=true→scrubF e F f=true∨antiF e f=true)(h2:∀f∈F,scrubF e F f=true→W f=true):decK e (F.filter fun f=> !W f)=decK e F:=by
 refine keep_wl (fun f hf hW=>?_) fun f hf hp hk hW=>?_
 ·rcases h1 f hf hW with h8|h8
  ·exact(scrub_keep h8).1
  ·cases hk:keepF e F f with
   |false=>rfl
   |true=>rw[(keep_not hk).2] at h8;cases h8
 ·have h8:scrubF e F f=true:=by unfold scrubF;rw[pay_anti hp,hk];rfl
  rw[h2 f hf h8] at hW;cases hW
end
section
attribute [local irreducible] V.CW V.LW V.QW V.RW V.PQ V.Val V.Eff V.Qcall
open V (str byC ownV ownG ownS ownOk)
abbrev fdA (D:List Ce):List Fnd:=fds D (slabsF D.length*8)
abbrev kpA (D:List Ce):List Fnd:=decK (openF D).1 (fdA D)
theorem upD_kept {D:List Ce}{line:Int}{g:Ce→Ce}{i:Nat}{c':Ce}(h:(upD D line g)[i]? =some c')(hg:∀c,(g c).kept=c.kept):∃c0,D[i]? =some c0∧c'.kept=c0.kept:=by
 unfold upD at h
 split at h
 ·rw[List.getElem?_modify] at h
  rw[Option.map_eq_map,Option.map_eq_some_iff] at h
  obtain⟨c0,h1,h2⟩:=h
  refine⟨c0,h1,?_⟩
  rw[← h2]
  split
  ·exact hg c0
  ·rfl
 ·exact⟨c',h,rfl⟩
theorem wip1_kept {D:List Ce}{f:Fnd}{i:Nat}{c':Ce}(h:(wip1 D f)[i]? =some c'):∃c0,D[i]? =some c0∧c'.kept=c0.kept:=by
 unfold wip1 at h
 obtain⟨c1,h1,h2⟩:=upD_kept h fun c=>rfl
 unfold stD at h1
 split at h1
 ·obtain⟨c0,h3,h4⟩:=upD_kept h1 fun c=>rfl
  exact⟨c0,h3,h2.trans h4⟩
 ·exact⟨c1,h1,h2⟩
theorem wl_kept:∀{fs:List Fnd} {D:List Ce} {i:Nat} {c':Ce},(wl D fs)[i]? =some c'→∃c0,D[i]? =some c0∧c'.kept=c0.kept
 |[],D,i,c',h=>⟨c',h,rfl⟩
 |f::r,D,i,c',h=>by
  have h8:(wl (wip1 D f) r)[i]? =some c':=h
  obtain⟨c1,h1,h2⟩:=wl_kept h8
  obtain⟨c0,h3,h4⟩:=wip1_kept h1
  exact⟨c0,h3,h2.trans h4⟩
theorem wip1_len (D:List Ce)(f:Fnd):(wip1 D f).length=D.length:=by unfold wip1;rw[upD_len,stD_len]
theorem wl_len:∀(fs:List Fnd) (D:List Ce),(wl D fs).length=D.length
 |[],_=>rfl
 |f::r,D=>(wl_len r (wip1 D f)).trans (wip1_len D f)
theorem now_out {D D':List Ce}(hl:D'.length=D.length){i:Int}(h:¬(0≤i∧i<D.length)):nowL D' i=nowL D i:=by
 rw[nowL_out h,nowL_out (by rw[hl];exact h)]
def InD (D:List Ce)(L:List Fnd):Prop:=∀f∈L,spanF f.b.cls≠0∧0≤f.line∧f.line<D.length
theorem fds_in (D:List Ce)(M:Int):InD D (fds D M):=by
 intro f hf
 obtain⟨i,_,hi⟩:=fds_mem.1 hf
 obtain⟨c,kd,hh,_,_⟩:=scN_head hi
 have hl:=scN_line hi
 refine⟨scN_span hi,?_⟩
 by_cases e:0≤f.line∧f.line<D.length
 ·exact e
 ·rw[← hl,nowL_out e] at hh
  have h8:=(head_some hh).1
  cases h8
theorem fen_wl {D:List Ce}{S:List Fnd}(hc:Calm D)(hS:InD D S):Wl D ((wl D S).map fenB) S:=by
 have hlen:((wl D S).map fenB).length=D.length:=by rw[List.length_map,wl_len]
 refine⟨hlen,fun i hi=>?_,fun f hf=>?_⟩
 ·by_cases h:0≤i∧i<D.length
  ·obtain⟨j,rfl⟩:∃j:Nat,i=j:=⟨i.toNat,by omega⟩
   obtain⟨c',hc'⟩:∃c',((wl D S).map fenB)[j]? =some c':=⟨_,List.getElem?_eq_getElem om_⟩
   rcases wiped_at hc (fun f hf=>(hS f hf).1) hc' with⟨h1,_⟩|⟨_,_,f,hf,h3,_⟩
   ·rw[nowL_of hc',nowL_of h1]
   ·exact absurd h3 (hi f hf)
  ·exact now_out hlen h
 ·obtain⟨hs,h0,hlt⟩:=hS f hf
  obtain⟨j,hj⟩:∃j:Nat,f.line=j:=⟨f.line.toNat,by omega⟩
  obtain⟨c',hc'⟩:∃c',((wl D S).map fenB)[j]? =some c':=⟨_,List.getElem?_eq_getElem om_⟩
  rcases wiped_at hc (fun f hf=>(hS f hf).1) hc' with⟨_,h1⟩|⟨_,_,g,hg,h3,h4⟩
  ·exact absurd hj (h1 f hf)
  ·exact⟨g,hg,h3.trans hj.symm,by rw[hj,nowL_of hc',h4]⟩
theorem cut_calm {D:List Ce}(hc:Calm D)(keep:List Int):cutD D keep=D:=by
 apply List.ext_getElem?
 intro i
 cases e:D[i]? with
 |none=>
  rw[List.getElem?_eq_none_iff] at e⊢
  rw[cutD_len];exact e
 |some c=>
  rw[cutD_at e]
  obtain⟨h1,h2⟩:=hc c (List.mem_of_getElem? e)
  unfold cutC
  obtain⟨a,b,w,s⟩:=c
  simp only at h1 h2⊢
  rw[h1,h2];simp
theorem cut_is (D:List Ce)(keep:List Int):Calm (cutD D keep):=by
 intro c hc
 obtain⟨i,hi⟩:=List.mem_iff_getElem?.1 hc
 have hlt:i<D.length:=by
  have:=(List.getElem?_eq_some_iff.1 hi).1
  rwa [cutD_len] at this
 rw[cutD_at (List.getElem?_eq_getElem hlt),Option.some.injEq] at hi
 rw[← hi]
 exact⟨rfl,rfl⟩
theorem cut_wl {D:List Ce}{L:List Fnd}(hc:Calm D)(hS:InD D L)(keep:List Int):Wl D (cutD (wl D L) keep) (L.filter fun f=>decide (f.line∈keep)):=by
 have hlen:(cutD (wl D L) keep).length=D.length:=by rw[cutD_len,wl_len]
 have hdl:∀f∈L,(draftL f.b.cls).length=64:=fun f hf=>draftL_len (hS f hf).1
 refine⟨hlen,fun i hi=>?_,fun f hf=>?_⟩
 ·by_cases h:0≤i∧i<D.length
  ·obtain⟨j,rfl⟩:∃j:Nat,i=j:=⟨i.toNat,by omega⟩
   obtain⟨c,hcj⟩:∃c,(wl D L)[j]? =some c:=⟨_,List.getElem?_eq_getElem (by rw[wl_len];omega)⟩
   rw[nowL_of (cutD_at hcj)]
   obtain⟨c0,h1,h2⟩:=wl_kept hcj
   obtain⟨h3,_⟩:=hc c0 (List.mem_of_getElem? h1)
   rw[nowL_of h1]
   unfold cutC
   simp only
   rcases wl_at hdl hcj with⟨h4,_⟩|⟨f,hf,h4,_⟩
   ·rw[h1,Option.some.injEq] at h4
    subst h4
    split
    ·rfl
    ·rw[h3]
   ·rw[if_neg fun hk=>hi f (List.mem_filter.2 ⟨hf,by rw[h4];exact decide_eq_true hk⟩) h4,h2,h3]
  ·exact now_out hlen h
 ·obtain⟨hf1,hf2⟩:=List.mem_filter.1 hf
  obtain⟨hs,h0,hlt⟩:=hS f hf1
  obtain⟨j,hj⟩:∃j:Nat,f.line=j:=⟨f.line.toNat,by omega⟩
  obtain⟨c,hcj⟩:∃c,(wl D L)[j]? =some c:=⟨_,List.getElem?_eq_getElem (by rw[wl_len];omega)⟩
  have hk:((j:Nat):Int)∈keep:=by rw[← hj];simpa using hf2
  rcases wl_at hdl hcj with⟨_,h4⟩|⟨g,hg,h4,h5,_⟩
  ·exact absurd hj (h4 f hf1)
  ·refine⟨g,List.mem_filter.2 ⟨hg,by rw[h4];exact decide_eq_true hk⟩,h4.trans hj.symm,?_⟩
   rw[hj,nowL_of (cutD_at hcj)]
   unfold cutC
   simp only
   rw[if_pos hk,h5]
theorem open_wl {D D':List Ce}{L:List Fnd}(hw:Wl D D' L)(hL:∀f∈L,2≤f.line):openF D'=openF D:=by
 have h:∀i:Nat,i<2→D'[i]?.map Ce.now=D[i]?.map Ce.now:=fun i hi=>by
  have hs:=hw.sm (i:Nat) fun f hf e=>by have:=hL f hf;omega
  cases e:D[i]? with
  |none=>
   rw[List.getElem?_eq_none_iff] at e
   rw[List.getElem?_eq_none (by rw[hw.len];exact e)]
  |some c=>
   have hlt:=(List.getElem?_eq_some_iff.1 e).1
   have e2:D'[i]? =some (D'[i]'(by rw[hw.len];exact hlt)):=List.getElem?_eq_getElem _
   rw[nowL_of e,nowL_of e2] at hs
   rw[e2]
   simp only[Option.map_some]
   rw[Subtype.ext hs]
 have h0:=h 0 om_
 have h1:=h 1 om_
 unfold openF
 rw[hw.len]
 cases e0:D[0]? with
 |none=>
  rw[e0] at h0
  cases e0':D'[0]? with
  |none=>rfl
  |some c=>rw[e0'] at h0;cases h0
 |some c0=>
  rw[e0] at h0
  cases e0':D'[0]? with
  |none=>rw[e0'] at h0;cases h0
  |some c0'=>
   rw[e0'] at h0
   simp only[Option.map_some,Option.some.injEq] at h0
   simp only
   rw[h0]
   cases e1:D[1]? with
   |none=>
    rw[e1] at h1
    cases e1':D'[1]? with
    |none=>rfl
    |some c=>rw[e1'] at h1;cases h1
   |some c1=>
    rw[e1] at h1
    cases e1':D'[1]? with
    |none=>rw[e1'] at h1;cases h1
    |some c1'=>
     rw[e1'] at h1
     simp only[Option.map_some,Option.some.injEq] at h1
     simp only
     rw[h1]
structure Same (D D':List Ce):Prop where
 len:D'.length=D.length
 calm:Calm D'
 op:openF D'=openF D
 kp:kpA D'=kpA D
theorem Same.refl {D:List Ce}(h:Calm D):Same D D:=⟨rfl,h,rfl,rfl⟩
theorem fds_two {D:List Ce}{M:Int}{f:Fnd}(h:f∈fds D M):2≤f.line:=by
 obtain⟨i,_,hi⟩:=fds_mem.1 h
 have:=scN_line hi
 omega
theorem same_wl {D D':List Ce}{L:List Fnd}(hw:Wl D D' L)(hc:Calm D')(hL:∀f∈L,f∈fdA D)(hk:decK (openF D).1 ((fdA D).filter fun f=> !decide (f∈L))=kpA D):Same D D':=by
 have ho:=open_wl hw fun f hf=>fds_two (hL f hf)
 refine⟨hw.len,hc,ho,?_⟩
 unfold kpA fdA
 rw[ho,hw.len,fds_wl hw hL]
 exact hk
structure Run (D0:List Ce)(v:Dev)(c:Cor):Prop where
 p7:c.ph≤7
 q:c.ph≤2∨c.ph=7→v.D=D0
 e:1≤c.ph→c.ph≤6→(openF D0).2=0∧c.e=(openF D0).1
 k:3≤c.ph→c.ph≤6→ovE D0.length (kpA D0)=0
 b:c.ph=7→(openF D0).2≠0∨ovE D0.length (kpA D0)≠0
theorem scC_e (D:List Ce)(c:Cor):(scC D c).e=c.e:=by unfold scC;split<;>rfl
theorem wpC_e (q:Fnd→Bool)(c:Cor)(p:Int):(wpC q c p).e=c.e:=by unfold wpC;split<;>rfl
theorem run0 (v:Dev):Run v.D v cor0:=⟨by decide,fun _=>rfl,fun h=>absurd h (by decide),fun h=>absurd h (by decide),fun h=>absurd h (by decide)⟩
theorem Run.step {n:Nat}{D0:List Ce}{v:Dev}{c:Cor}(h:Run D0 v c)(hC:Cln D0 v c)(hI:Inv n v c)(hn:D0.length=n):Run D0 (stp v c).1 (stp v c).2.1:=by
 have hp:=hI.ph
 have hnx:=hI.nx
 have hlen:=hI.len
 unfold stp
 by_cases h0:c.ph=0
 ·rw[if_pos h0]
  have hv:=h.q (.inl om_)
  simp only
  split
  ·rename_i ho
   rw[hv] at ho
   exact⟨by simp,fun _=>hv,fun _ _=>⟨ho,by rw[hv]⟩,fun h8=>absurd h8 (by simp),fun h8=>absurd h8 (by simp)⟩
  ·rename_i ho
   rw[hv] at ho
   exact⟨by simp,fun _=>hv,fun _ h8=>absurd h8 (by simp),fun _ h8=>absurd h8 (by simp),fun _=> .inl ho⟩
 rw[if_neg h0]
 by_cases h1:c.ph=1
 ·rw[if_pos h1]
  have hv:=h.q (.inl om_)
  have he:=h.e om_ om_
  simp only
  have h9:(scC v.D c).ph=1∨(scC v.D c).ph=2:=by
   rcases scC_cases v.D c with⟨_,h8,_⟩|⟨_,h8,_⟩<;>omega
  exact⟨by omega,fun _=>hv,fun _ _=>⟨he.1,(scC_e _ _).trans he.2⟩,fun h8=>absurd h8 om_,fun h8=>absurd h8 om_⟩
 rw[if_neg h1]
 by_cases h2:c.ph=2
 ·rw[if_pos h2]
  have hv:=h.q (.inl om_)
  have he:=h.e om_ om_
  have hf:=hC.f2 om_ om_
  have hk:decK c.e c.fd=kpA D0:=by rw[he.2,hf]
  simp only
  split
  ·rename_i ho
   rw[hk,hlen,← hn] at ho
   exact⟨by simp,fun h8=>absurd h8 (by simp),fun _ _=>he,fun _ _=>ho,fun h8=>absurd h8 (by simp)⟩
  ·rename_i ho
   rw[hk,hlen,← hn] at ho
   exact⟨by simp,fun _=>hv,fun _ h8=>absurd h8 (by simp),fun _ h8=>absurd h8 (by simp),fun _=> .inr ho⟩
 rw[if_neg h2]
 by_cases h3:c.ph=3
 ·rw[if_pos h3]
  have he:=h.e om_ om_
  have hk:=h.k om_ om_
  simp only
  have h9:(wpC (scrubF c.e c.fd) c 4).ph=3∨(wpC (scrubF c.e c.fd) c 4).ph=4:=by
   rcases wpC_cases (scrubF c.e c.fd) c 4 hnx with⟨h8,_⟩|⟨h8,_⟩<;>omega
  exact⟨by omega,fun h8=>absurd h8 om_,fun _ _=>⟨he.1,(wpC_e _ _ _).trans he.2⟩,fun _ _=>hk,fun h8=>absurd h8 om_⟩
 rw[if_neg h3]
 by_cases h4:c.ph=4
 ·rw[if_pos h4]
  have he:=h.e om_ om_
  have hk:=h.k om_ om_
  simp only
  have h9:(wpC (antiF c.e) c 5).ph=4∨(wpC (antiF c.e) c 5).ph=5:=by
   rcases wpC_cases (antiF c.e) c 5 hnx with⟨h8,_⟩|⟨h8,_⟩<;>omega
  exact⟨by omega,fun h8=>absurd h8 om_,fun _ _=>⟨he.1,(wpC_e _ _ _).trans he.2⟩,fun _ _=>hk,fun h8=>absurd h8 om_⟩
 rw[if_neg h4]
 by_cases h5:c.ph=5
 ·rw[if_pos h5]
  have he:=h.e om_ om_
  have hk:=h.k om_ om_
  exact⟨by simp,fun h8=>absurd h8 (by simp),fun _ _=>he,fun _ _=>hk,fun h8=>absurd h8 (by simp)⟩
 rw[if_neg h5]
 exact h
theorem runN_run {v:Dev}(h:0<v.D.length∧v.D.length≤1000):∀k,Run v.D (runN v cor0 k).1 (runN v cor0 k).2
 |0=>run0 v
 |k+1=>(runN_run h k).step (runN_inv h k).2 (runN_inv h k).1 rfl
theorem cut_same {v:Dev}(hc:Calm v.D)(hL:0<v.D.length∧v.D.length≤1000)(k:Nat)(keep:List Int):Same v.D (cutD (runN v cor0 k).1.D keep):=by
 obtain⟨hI,hC⟩:=runN_inv hL k
 have hR:=runN_run hL k
 have hp:=hI.ph
 have hp7:=hR.p7
 generalize (runN v cor0 k).1=u at hI hC hR
 generalize (runN v cor0 k).2=c at hI hC hR hp hp7
 by_cases h2:c.ph≤2∨c.ph=7
 ·rw[hR.q h2,cut_calm hc]
  exact .refl hc
 have hfd:=hC.f2 om_ om_
 have hfA:fdA v.D=c.fd:=hfd.symm
 have he:=hR.e om_ om_
 have hin:=fds_in v.D (slabsF v.D.length*8)
 rw[← hfd] at hin
 have hS:InD v.D (c.fd.filter (scrubF c.e c.fd)):=fun f hf=>hin f (List.mem_filter.1 hf).1
 have hA:InD v.D (c.fd.filter (antiF c.e)):=fun f hf=>hin f (List.mem_filter.1 hf).1
 by_cases h3:c.ph=3
 ·rw[hC.p3 h3]
  have hsub:∀f∈(c.fd.take c.nx.toNat).filter (scrubF c.e c.fd),f∈c.fd∧scrubF c.e c.fd f=true:=fun f hf=>by
   obtain⟨a,b⟩:=List.mem_filter.1 hf
   exact⟨List.mem_of_mem_take a,b⟩
  refine same_wl (cut_wl hc (fun f hf=>hin f (hsub f hf).1) keep) (cut_is _ _) (fun f hf=>?_) ?_
  ·rw[hfA];exact(hsub f (List.mem_filter.1 hf).1).1
  ·unfold kpA fdA
   rw[← hfd,← he.2]
   refine keepA fun f hf hW=>?_
   rw[decide_eq_true_eq] at hW
   exact(hsub f (List.mem_filter.1 hW).1).2
 have hw1:=fen_wl hc hS
 have hc1:=wiped_calm hc fun f hf=>(hS f hf).1
 have hA1:InD ((wl v.D (c.fd.filter (scrubF c.e c.fd))).map fenB) (c.fd.filter (antiF c.e)):=fun f hf=>by rw[hw1.len];exact hA f hf
 have hB:∀L:List Fnd,(∀f∈L,f∈c.fd∧antiF c.e f=true)→∀(f:Fnd),f∈c.fd→(decide (f∈c.fd.filter (scrubF c.e c.fd)++L)=true→scrubF c.e c.fd f=true∨antiF c.e f=true)∧(scrubF c.e c.fd f=true→decide (f∈c.fd.filter (scrubF c.e c.fd)++L)=true):=fun L hL f hf=>by
  constructor
  ·intro h8
   rw[decide_eq_true_eq] at h8
   rcases List.mem_append.1 h8 with h9|h9
   ·exact .inl (List.mem_filter.1 h9).2
   ·exact .inr (hL f h9).2
  ·intro h8
   rw[decide_eq_true_eq]
   exact List.mem_append_left _ (List.mem_filter.2 ⟨hf,h8⟩)
 by_cases h4:c.ph=4
 ·rw[hC.p4 h4]
  have hsub:∀f∈(c.fd.take c.nx.toNat).filter (antiF c.e),f∈c.fd∧antiF c.e f=true:=fun f hf=>by
   obtain⟨a,b⟩:=List.mem_filter.1 hf
   exact⟨List.mem_of_mem_take a,b⟩
  have hsub2:∀f∈((c.fd.take c.nx.toNat).filter (antiF c.e)).filter (fun f=>decide (f.line∈keep)),f∈c.fd∧antiF c.e f=true:=fun f hf=>hsub f (List.mem_filter.1 hf).1
  refine same_wl (hw1.app (cut_wl hc1 (fun f hf=>hA1 f (List.mem_filter.2 (hsub f hf))) keep)) (cut_is _ _) (fun f hf=>?_) ?_
  ·rw[hfA]
   rcases List.mem_append.1 hf with h8|h8
   ·exact(List.mem_filter.1 h8).1
   ·exact(hsub2 f h8).1
  ·unfold kpA fdA
   rw[← hfd,← he.2]
   exact keepB (fun f hf=>(hB _ hsub2 f hf).1) fun f hf=>(hB _ hsub2 f hf).2
 ·rw[hC.p5 om_ om_]
  have hw2:=hw1.app (fen_wl hc1 hA1)
  have hc2:=wiped_calm hc1 fun f hf=>(hA f hf).1
  have hsub:∀f∈c.fd.filter (antiF c.e),f∈c.fd∧antiF c.e f=true:=fun f hf=>List.mem_filter.1 hf
  rw[cut_calm hc2]
  refine same_wl hw2 hc2 (fun f hf=>?_) ?_
  ·rw[hfA]
   rcases List.mem_append.1 hf with h8|h8
   ·exact(List.mem_filter.1 h8).1
   ·exact(hsub f h8).1
  ·unfold kpA fdA
   rw[← hfd,← he.2]
   exact keepB (fun f hf=>(hB _ hsub f hf).1) fun f hf=>(hB _ hsub f hf).2
theorem run_end {v:Dev}(hL:0<v.D.length∧v.D.length≤1000){k:Nat}(h6:6≤(runN v cor0 k).2.ph):((runN v cor0 k).2.ph=6↔(openF v.D).2=0∧ovE v.D.length (kpA v.D)=0)∧((runN v cor0 k).2.ph=6→(runN v cor0 k).2.e=(openF v.D).1∧(runN v cor0 k).2.kp=kpA v.D∧(runN v cor0 k).2.fd=fdA v.D):=by
 obtain⟨hI,hC⟩:=runN_inv hL k
 have hR:=runN_run hL k
 have hp7:=hR.p7
 refine⟨⟨fun h=>⟨(hR.e om_ om_).1,hR.k om_ om_⟩,fun h=>?_⟩,fun h=>?_⟩
 ·by_cases h7:(runN v cor0 k).2.ph=7
  ·rcases hR.b h7 with h8|h8
   ·exact absurd h.1 h8
   ·exact absurd h.2 h8
  ·omega
 ·have he:=(hR.e om_ om_).2
  have hf:=hC.f2 om_ om_
  refine⟨he,?_,hf⟩
  rw[(hI.kp om_ om_).1,he,hf]
theorem kp_dec {D:List Ce}{f:Fnd}(h:f∈kpA D):f.good=true∧decF (linesL D f.line (spanF f.b.cls))=some f.b:=by
 obtain⟨h1,h2⟩:=List.mem_filter.1 h
 have hg:f.good=true:=by
  have h3:=(keep_pay h2).1
  unfold payF soundF at h3
  simp only[Bool.and_eq_true] at h3
  exact h3.1.1
 refine⟨hg,?_⟩
 obtain⟨i,_,hi⟩:=fds_mem.1 h1
 obtain⟨c,kd,hh,_,hf⟩:=scN_head hi
 have hl:=scN_line hi
 unfold lookF at hf
 split at hf
 ·cases hd:decF (linesL D (2+(i:Nat)) (spanF ((c:Nat):Int))) with
  |none=>rw[hd] at hf;rw[hf] at hg;cases hg
  |some b=>
   rw[hd] at hf
   have hb:f.b=b:=by rw[hf]
   have h8:=lines_take (D:=D) (line:=2+(i:Nat)) (n:=spanF (c:Nat)) (by have:=(head_some hh).2.1;omega) (head_some hh).1
   have h9:=(dec_len (by rw[h8];exact hh) hd).1
   have hc:f.b.cls=(c:Nat):=by rw[hb,h9];rfl
   rw[hc,hl,hb];exact hd
 ·rw[hf] at hg;cases hg
end
section
attribute [local irreducible] V.CW V.LW V.QW V.RW V.PQ V.Val V.Eff V.Qcall
open V (str byC ownV ownG ownS ownOk)
theorem nmF_lay (v:Int):∀n:Nat,nmF (layF n v)=v.toNat%256^n
 |0=>by simp[layF,nmF,Nat.mod_one]
 |n+1=>by
  rw[layF_succ,nmF_snoc,nmF_lay v n,layF_len,Nat.mod_pow_succ]
  congr 2
  unfold layB
  rw[UInt8.toNat_ofNat',Nat.mod_eq_of_lt (Nat.mod_lt _ om_)]
theorem may_kind {x:Blk}(h:mayF x=true):0≤x.kind∧x.kind≤3:=by
 have hs:=may_span h
 unfold mayF at h
 rw[if_neg hs] at h
 by_cases k0:x.kind=0
 ·omega
 rw[if_neg k0,Bool.and_eq_true] at h
 have h1:=h.1
 by_cases k1:x.kind=1
 ·omega
 rw[if_neg k1] at h1
 by_cases k2:x.kind=2
 ·omega
 rw[if_neg k2] at h1
 by_cases k3:x.kind=3
 ·omega
 rw[if_neg k3] at h1
 cases h1
theorem super_get {n:Int}(h:10≤n∧n≤258):getN (superL n) 5 4=n:=by
 rw[getN_num _ _ om_ (by rw[superL_len];omega),super_whole ⟨by omega,by omega⟩]
 have e:(wholeF ([4,70,85,83,69]++layF 4 n)).drop 5=layF 4 n++(layF 4 (sumF ([4,70,85,83,69]++layF 4 n))++List.replicate 51 0):=by
  unfold wholeF
  simp only[List.append_assoc]
  rfl
 rw[e,List.take_append_of_le_length (by rw[layF_len];omega),List.take_of_length_le (by rw[layF_len];omega),nmF_lay]
 rw[Nat.mod_eq_of_lt om_]
 omega
theorem super_yes {b:B64}{n:Int}(hn:10≤n∧n≤258)(h:superL n=b.1):isSuperF b=(n,true):=by
 have h8:=super_get hn
 unfold isSuperF
 rw[← h,h8,if_neg om_,IntWalk.i64_in _ om_,if_pos rfl]
def rising (l:List Fnd):Prop:=l.Pairwise fun a b=>a.line<b.line
theorem fds_rise (D:List Ce)(m:Int):rising (fds D m):=by
 unfold fds rising
 refine List.Pairwise.filterMap _ (R:=fun a b:Nat=>a<b) (fun a b hab x hx y hy=>?_) List.pairwise_lt_range
 have h1:=scN_line hx
 have h2:=scN_line hy
 omega
end
theorem may_cls {x:Blk}(h:mayF x=true):0≤x.cls∧x.cls≤3:=by
 have h1:=may_span h
 unfold spanF at h1
 split at h1
 ·assumption
 ·exact absurd rfl h1
theorem may_num {x:Blk}(h:mayF x=true):numOk x:=by
 have h1:=may_span h
 have h2:=may_cap h
 unfold mayF at h
 unfold numOk
 rw[if_neg h1] at h
 by_cases hk:x.kind=0
 ·rw[if_pos hk] at h
  have h:=of_decide_eq_true h
  obtain⟨a,b,c,d,e⟩:=h
  rw[a,b,c,e]
  exact⟨by omega,by omega,by omega,by simp⟩
 ·rw[if_neg hk,Bool.and_eq_true,Bool.and_eq_true,Bool.and_eq_true] at h
  obtain⟨h0,h3,h4,h5⟩:=h
  unfold numF at h3 h4 h5
  have h3:=of_decide_eq_true h3
  have h4:=of_decide_eq_true h4
  have h5:=of_decide_eq_true h5
  have hc:capN x.cls≤469:=by
   have h9:=capN_span h1
   omega
  exact⟨by omega,by omega,by omega,by omega⟩
theorem hd_take (x:Blk)(h:mayF x=true):(encL x).take 32=hd32 x:=by
 rw[encL_eq (may_num h),List.append_assoc,List.append_assoc,List.take_append_of_le_length (by rw[hd32_len];exact Nat.le_refl _),List.take_of_length_le (by rw[hd32_len];exact Nat.le_refl _)]
theorem sub_take {l m:List UInt8}{n:Nat}(h:l.take 64=m.take 64)(hn:n≤64):l.take n=m.take n:=by
 have:=congrArg (List.take n) h
 rwa [List.take_take,List.take_take,Nat.min_eq_left hn] at this
theorem num_at {l:List UInt8}{H:List UInt8}(h:l.take 32=H)(hl:32≤l.length){a n:Nat}(ha:a+n≤32)(hn:n≤8):getN l a n=((nmF ((H.drop a).take n):Nat):Int):=by
 rw[getN_num l a hn om_,← h,List.drop_take,List.take_take,Nat.min_eq_left om_]
theorem lay8 {v:Int}(h:0≤v∧v<18446744073709551616):((nmF (layF 8 v):Nat):Int)=v:=by
 rw[nmF_lay,Nat.mod_eq_of_lt om_];omega
theorem head_tells {x:Blk}(hm:mayF x=true){l:List UInt8}(h:l.take 64=(encL x).take 64)(hl:64≤l.length):
 getN l 8 8=x.id∧getN l 16 8=x.ver∧getN l 24 8=x.ep∧keysN l=x.key.length∧valsN l=x.val.length∧headF (l.take 64)=some (x.cls.toNat,x.kind.toNat):=by
 have hn:=may_num hm
 have hc:=may_cls hm
 have hk:=may_kind hm
 have hcap:=may_cap hm
 have hsp:=capN_span (may_span hm)
 have h32:l.take 32=hd32 x:=(sub_take h (by decide)).trans (hd_take x hm)
 have hkl:x.key.length≤255:=by
  unfold mayF at hm
  rw[if_neg (may_span hm)] at hm
  by_cases h0:x.kind=0
  ·rw[if_pos h0] at hm
   have hm:=of_decide_eq_true hm
   rw[hm.2.2.2.1];simp
  ·rw[if_neg h0,Bool.and_eq_true,Bool.and_eq_true,Bool.and_eq_true] at hm
   have h9:=hm.1
   split at h9
   ·have:=of_decide_eq_true h9;omega
   ·split at h9
    ·have h8:=(of_decide_eq_true h9).1;rw[h8];simp
    ·split at h9
     ·have h8:=(of_decide_eq_true h9).1;rw[h8];simp
     ·cases h9
 have hg:∀i,i<32→l[i]? =(hd32 x)[i]? :=fun i hi=>by rw[← h32,List.getElem?_take_of_lt hi]
 have hb:∀n:Int,0≤n∧n≤255→(byteF n).toNat=n.toNat:=fun n h=>by
  unfold byteF
  rw[IntWalk.u8_in n om_]
  simp;omega
 refine⟨?_,?_,?_,?_,?_,?_⟩
 ·rw[num_at h32 om_ (by decide) (by decide)];exact lay8 hn.1
 ·rw[num_at h32 om_ (by decide) (by decide)];exact lay8 hn.2.1
 ·rw[num_at h32 om_ (by decide) (by decide)];exact lay8 hn.2.2.1
 ·unfold keysN
  rw[hg 3 (by decide),show(hd32 x)[3]? =some (byteF x.key.length) from rfl,Option.getD_some,hb _ om_];omega
 ·unfold valsN
  rw[num_at h32 om_ (by decide) (by decide),show((hd32 x).drop 4).take 2=layF 2 (x.val.length:Nat) from rfl,nmF_lay,Nat.mod_eq_of_lt (by have:=hn.2.2.2;omega)];omega
 ·unfold headF
  rw[List.length_take,List.getElem?_take_of_lt (by decide),List.getElem?_take_of_lt (by decide),List.getElem?_take_of_lt (by decide),hg 0 (by decide),hg 1 (by decide),hg 2 (by decide),show(hd32 x)[0]? =some 1 from rfl,show(hd32 x)[1]? =some (byteF x.cls) from rfl,show(hd32 x)[2]? =some (byteF x.kind) from rfl,Option.getD_some,Option.getD_some,hb _ om_,hb _ om_]
  have e1:((x.cls.toNat:Nat):Int)=x.cls:=by omega
  rw[if_pos ⟨by omega,rfl,by rw[e1];exact may_span hm,by omega⟩]
theorem tail_get (dt:List UInt8){k i:Nat}(hi:i<k)(h:28+63*k≤dt.length):((tailL dt k).drop (64*i+1)).take 63=(dt.drop (28+63*i)).take 63:=by
 induction k with
 |zero=>omega
 |succ k ih=>
  have hl:=tailL_len dt k om_
  rw[tailL_succ]
  by_cases e:i=k
  ·subst e
   rw[List.drop_append,List.drop_eq_nil_of_le om_,List.nil_append,hl,show 64*i+1-64*i=1 by omega,List.drop_one,List.tail_cons,List.take_of_length_le (by rw[List.length_take];omega)]
  ·rw[List.drop_append_of_le_length om_,List.take_append_of_le_length (by rw[List.length_drop];omega),ih om_ om_]
theorem dataTo_enc {x:Blk}(hm:mayF x=true):∀k,k+1≤spanF x.cls→dataTo (encL x) k=(dataB x).take (28+63*k)
 |0,_=>by
  have hn:=may_num hm
  have hd:=dataB_len hm
  have hsp:=capN_span (may_span hm)
  unfold dataTo
  rw[encL_eq hn,List.append_assoc,List.append_assoc]
  rw[List.drop_append,List.drop_eq_nil_of_le (by rw[hd32_len];omega),List.nil_append,hd32_len,show 36-32=4 from rfl,List.drop_append,List.drop_eq_nil_of_le (by rw[layF_len];omega),List.nil_append,layF_len,Nat.sub_self,List.drop_zero,List.take_append_of_le_length (by rw[List.length_take];omega),List.take_take]
  simp
 |k+1,hk=>by
  have hn:=may_num hm
  have hd:=dataB_len hm
  have hsp:=capN_span (may_span hm)
  have ih:=dataTo_enc hm k om_
  have e1:dataTo (encL x) (k+1)=dataTo (encL x) k++((encL x).drop (64*(k+1)+1)).take 63:=by
   unfold dataTo
   rw[List.range_succ,List.flatMap_append,← List.append_assoc];simp
  have e2:encL x=(headL x (dataB x))++tailL (dataB x) (spanF x.cls-1):=rfl
  have h64:(headL x (dataB x)).length=64:=by
   rw[headL_eq hn,List.length_append,List.length_append,hd32_len,layF_len,List.length_take];omega
  rw[e1,ih,e2,List.drop_append,List.drop_eq_nil_of_le om_,List.nil_append,h64,show 64*(k+1)+1-64=64*k+1 by omega,tail_get (dataB x) om_ om_,show 28+63*(k+1)=(28+63*k)+63 by omega]
  exact List.take_add.symm
theorem dec_enc {x:Blk}(hm:mayF x=true):decF (encL x)=some x:=by
 have hl:=encL_len hm
 have hsp:=capN_span (may_span hm)
 have hd:=dataB_len hm
 have hcap:=may_cap hm
 have hc:=may_cls hm
 have hk:=may_kind hm
 obtain⟨h1,h2,h3,h4,h5,h6⟩:=head_tells hm (l:=encL x) rfl om_
 have h7:dataL (encL x)=dataB x:=by
  unfold dataL
  rw[hl,Nat.mul_div_cancel_left _ (by decide),dataTo_enc hm _ om_,List.take_of_length_le om_]
 have e1:((x.cls.toNat:Nat):Int)=x.cls:=by omega
 have e2:((x.kind.toNat:Nat):Int)=x.kind:=by omega
 have hX:decX (encL x) x.cls.toNat x.kind.toNat=x:=by
  unfold decX
  rw[h1,h2,h3,h4,h5,h7,e1,e2]
  unfold dataB
  rw[List.append_assoc,List.take_left',List.drop_left',List.take_left']<;>rfl
 rw[dec_yes h6 ⟨by rw[hl,e1];omega,by rw[h4,h5,h7];omega,by rw[hX];exact hm,by rw[hX]⟩,hX]
theorem dec_tells {x y:Blk}(hm:mayF x=true){l:List UInt8}(h:l.take 64=(encL x).take 64)(hd:decF l=some y):y.id=x.id∧y.ver=x.ver∧y.ep=x.ep∧y.kind=x.kind∧y.cls=x.cls:=by
 have hl:=encL_len hm
 have hsp:=capN_span (may_span hm)
 have hc:=may_cls hm
 have hk:=may_kind hm
 have h64:64≤l.length:=by
  have:=congrArg List.length h
  rw[List.length_take,List.length_take] at this
  omega
 obtain⟨h1,h2,h3,h4,h5,h6⟩:=head_tells hm h h64
 obtain⟨e,_⟩:=dec_len h6 hd
 subst e
 refine⟨h1,h2,h3,?_,?_⟩
 ·show((x.kind.toNat:Nat):Int)=x.kind;omega
 ·show((x.cls.toNat:Nat):Int)=x.cls;omega
structure TkAt (L:List Slb)(line c:Int)(i k:Nat):Prop where
 s:∃s,L[i]? =some s∧s.c=c∧s.tk.1[k]? =some true
 k8:k<8/spanF c
 i32:i<32
 ln:line=2+(i:Nat)*8+(k:Nat)*(spanF c:Nat)
def Tk (L:List Slb)(line c:Int):Prop:=∃i k,TkAt L line c i k
theorem sp4 {c:Int}(h:spanF c≠0):spanF c=1∨spanF c=2∨spanF c=4∨spanF c=8:=by
 rcases spanF_cases c with⟨_,h1⟩|⟨_,h1⟩|⟨_,h1⟩|⟨_,h1⟩|⟨_,h1⟩<;>omega
theorem k_span {c:Int}{k:Nat}(h:k<8/spanF c):spanF c≠0∧k*spanF c+spanF c≤8:=by
 have h0:spanF c≠0:=fun e=>by rw[e] at h;simp at h
 refine⟨h0,?_⟩
 rcases sp4 h0 with e|e|e|e<;>rw[e] at h⊢ <;>omega
theorem TkAt.rng {L:List Slb}{line c:Int}{i k:Nat}(h:TkAt L line c i k):2+(i:Int)*8≤line∧line+spanF c≤2+(i:Int)*8+8:=by
 have h1:=(k_span h.k8).2
 have h2:=h.ln
 have e:((k:Nat):Int)*(spanF c:Nat)=((k*spanF c:Nat):Int):=by simp
 rw[e] at h2
 omega
theorem TkAt.slab {L:List Slb}{line c:Int}{i k:Nat}(h:TkAt L line c i k):slabOfF line=(i:Nat):=by
 have h1:=h.rng
 have h2:=h.i32
 have h3:=(k_span h.k8).1
 unfold slabOfF
 rw[if_neg om_,Int.tdiv_eq_ediv_of_nonneg om_]
 omega
theorem starts_at {i k:Nat}{c:Int}(hk:k<8/spanF c)(hi:i<32):(startsF (i:Nat) c)[k]? =some (2+(i:Nat)*8+(k:Nat)*(spanF c:Nat))∧(startsF (i:Nat) c).Nodup:=by
 have h0:=(k_span hk).1
 have e:startsF (i:Nat) c=(List.range (8/spanF c)).map fun j:Nat=>slabF (i:Nat)+(j:Nat)*(spanF c:Nat):=by
  unfold startsF
  rw[if_neg]
  unfold slabF
  rw[if_neg om_]
  omega
 have es:slabF (i:Nat)=2+(i:Nat)*8:=by unfold slabF;rw[if_neg om_]
 rw[e]
 constructor
 ·rw[List.getElem?_map,List.getElem?_range hk,es];rfl
 ·rw[List.nodup_iff_pairwise_ne,List.pairwise_map]
  refine List.nodup_range.imp fun {a b} hab he=>hab ?_
  rcases sp4 h0 with h|h|h|h<;>rw[h] at he<;>omega
theorem ix_at {l:List Int}{k:Nat}{x:Int}(h:l[k]? =some x)(hn:l.Nodup):ixI l x=(k:Nat):=by
 obtain⟨hk,hx⟩:=List.getElem?_eq_some_iff.1 h
 have hm:x∈l:=by rw[← hx];exact List.getElem_mem hk
 unfold ixI
 rw[if_pos hm,← hx,hn.idxOf_getElem]
theorem TkAt.ix {L:List Slb}{line c:Int}{i k:Nat}(h:TkAt L line c i k):ixI (startsF (i:Nat) c) line=(k:Nat):=by
 obtain⟨h1,h2⟩:=starts_at h.k8 h.i32
 rw[h.ln]
 exact ix_at h1 h2
theorem len_lt {L:List Slb}{i:Nat}{s:Slb}(h:L[i]? =some s):i<L.length:=(List.getElem?_eq_some_iff.1 h).1
theorem TkAt.at_ {L:List Slb}{line c:Int}{i k:Nat}(h:TkAt L line c i k):∃s,L[i]? =some s∧s.c=c∧s.tk.1[k]? =some true∧atF L line=some (i,s,((k:Nat):Int)):=by
 obtain⟨s,hs,hc,ht⟩:=h.s
 refine⟨s,hs,hc,ht,?_⟩
 have h1:=len_lt hs
 unfold atF
 rw[h.slab,if_neg om_,Int.toNat_natCast,hs,Option.map_some,hc,h.ix]
theorem setB_at (t:B8){k j:Nat}(b:Bool)(hk:k<8):(setB t k b).1[j]? =if k=j then some b else t.1[j]? :=by
 show(t.1.set k b)[j]? =_
 rw[List.getElem?_set]
 split
 ·rename_i e
  rw[if_pos (by rw[t.2];exact hk)]
 ·rfl
theorem tk_apart {L:List Slb}{l1 c1 l2 c2:Int}(h1:Tk L l1 c1)(h2:Tk L l2 c2)(hne:l1≠l2):l1+spanF c1≤l2∨l2+spanF c2≤l1:=by
 obtain⟨i,k,h1⟩:=h1
 obtain⟨j,m,h2⟩:=h2
 have r1:=h1.rng
 have r2:=h2.rng
 by_cases e:i=j
 ·subst e
  obtain⟨s,hs,hc,_⟩:=h1.s
  obtain⟨s',hs',hc',_⟩:=h2.s
  rw[hs] at hs'
  injection hs' with hs'
  subst hs'
  subst hc
  subst hc'
  have a:=h1.ln
  have b:=h2.ln
  have hsp:=(k_span h1.k8).1
  rcases sp4 hsp with e|e|e|e<;>rw[e] at a b⊢ <;>omega
 ·omega
theorem tk_rng {L:List Slb}{line c:Int}(h:Tk L line c):2≤line∧line+spanF c≤2+8*(L.length:Nat)∧spanF c≠0:=by
 obtain⟨i,k,h⟩:=h
 obtain⟨s,hs,_⟩:=h.s
 have h1:=len_lt hs
 have h2:=h.rng
 exact⟨by omega,by omega,(k_span h.k8).1⟩
theorem tk_home {L:List Slb}{line c:Int}(h:Tk L line c):homeF line c=true:=by
 obtain⟨i,k,h⟩:=h
 unfold homeF
 rw[h.slab,decide_eq_true_eq,h.ln]
 exact List.mem_of_getElem? (starts_at h.k8 h.i32).1
theorem take_tk {L L':List Slb}{c line:Int}(hL:plOk L)(h:ptakeF L c=(L',line,0)):Tk L' line c∧(∀l d,Tk L l d→Tk L' l d∧(l+spanF d≤line∨line+spanF c≤l)):=by
 unfold ptakeF at h
 by_cases h0:spanF c=0
 ·rw[if_pos h0] at h;simp at h
 rw[if_neg h0] at h
 cases hf:findF L c with
 |none=>rw[hf] at h;simp at h
 |some p=>
  obtain⟨i,k⟩:=p
  obtain⟨s,hs,h1,h2,h3⟩:=find_get hL h0 hf
  rw[hf] at h
  simp only[hs] at h
  injection h with hA hB
  injection hB with hB _
  have hi:=len_lt hs
  have h32:=hL.2
  have hk:=(k_span h3).2
  have hk8:k<8:=by
   have:=Nat.le_mul_of_pos_right k (Nat.pos_of_ne_zero h0);omega
  have hsi:L'[i]? =some (s.take c k):=by rw[← hA];exact List.getElem?_set_self hi
  have hT:Tk L' line c:=by
   refine⟨i,k,⟨s.take c k,hsi,rfl,?_⟩,h3,by omega,hB.symm⟩
   show(setB s.tk k true).1[k]? =_
   rw[setB_at _ _ hk8,if_pos rfl]
  refine⟨hT,fun l d hl=>?_⟩
  obtain⟨j,m,hl⟩:=hl
  obtain⟨s',hs',hc',ht'⟩:=hl.s
  have hsok:=hL.at hs
  by_cases e:j=i
  ·subst e
   rw[hs] at hs'
   injection hs' with hs'
   subst hs'
   have hm8:m<8:=by
    have h9:=(k_span hl.k8)
    have:=Nat.le_mul_of_pos_right m (Nat.pos_of_ne_zero h9.1);omega
   have hc:s.c=c:=by
    rcases h1 with h1|h1
    ·exact h1
    ·exfalso
     have:=hsok.none h1.1 hm8
     rw[this] at ht';simp at ht'
   have hmk:m≠k:=fun e=>by
    subst e
    rw[(h2 hc).2] at ht';simp at ht'
   have hd:d=c:=hc'.symm.trans hc
   subst hd
   have hT2:Tk L' l d:=by
    refine⟨j,m,⟨s.take d k,hsi,rfl,?_⟩,hl.k8,hl.i32,hl.ln⟩
    show(setB s.tk k true).1[m]? =_
    rw[setB_at _ _ hk8,if_neg (Ne.symm hmk)];exact ht'
   refine⟨hT2,?_⟩
   have a:=hl.ln
   have b:=hB.symm
   rcases sp4 h0 with e|e|e|e<;>rw[e] at a b⊢ <;>omega
  ·have hT2:Tk L' l d:=⟨j,m,⟨s',by rw[← hA,List.getElem?_set_ne (Ne.symm e)];exact hs',hc',ht'⟩,hl.k8,hl.i32,hl.ln⟩
   refine⟨hT2,tk_apart hT2 hT ?_⟩
   intro el
   have r1:=hl.rng
   have h9:=(k_span hl.k8).1
   rw[← hB] at el
   have e3:((k:Nat):Int)*(spanF c:Nat)=((k*spanF c:Nat):Int):=by simp
   rw[e3] at el
   omega
theorem give_tk {L:List Slb}{line c:Int}(hL:plOk L)(h:Tk L line c){l d:Int}(hl:Tk L l d)(hne:l≠line):Tk (giveF L line).1 l d:=by
 obtain⟨i,k,h⟩:=h
 obtain⟨s,hs,hc,ht,ha⟩:=h.at_
 have hi:=len_lt hs
 have hg:(giveF L line).1=L.set i (s.give k):=by
  unfold giveF
  rw[ha]
  simp only
  rw[if_pos (by unfold atOk;simp[ht]),Int.toNat_natCast]
 rw[hg]
 obtain⟨j,m,hl⟩:=hl
 obtain⟨s',hs',hc',ht'⟩:=hl.s
 by_cases e:j=i
 ·subst e
  rw[hs] at hs'
  injection hs' with hs'
  subst hs'
  have hk8:k<8:=by have:=(List.getElem?_eq_some_iff.1 ht).1;have:=s.tk.2;omega
  have hmk:m≠k:=fun e=>by
   subst e
   apply hne
   rw[hl.ln,h.ln,← hc',hc]
  have hsok:=hL.at hs
  have hn:s.n-1≠0:=by
   obtain⟨h1,_⟩:=hsok
   intro e0
   have h2:(s.tk.1.set k false).count true=s.tk.1.count true-1:=by
    have:=count_setB (l:=s.tk.1) (k:=k) false (by simpa using ht)
    simp only[Bool.false_eq_true,if_false] at this
    omega
   have h3:0<(s.tk.1.set k false).count true:=by
    rw[List.count_pos_iff]
    exact List.mem_of_getElem? (i:=m) (by rw[List.getElem?_set_ne (Ne.symm hmk)];exact ht')
   omega
  refine⟨j,m,⟨s.give k,List.getElem?_set_self hi,?_,?_⟩,hl.k8,hl.i32,hl.ln⟩
  ·show(if s.n-1=0 then(-1:Int) else s.c)=d
   rw[if_neg hn];exact hc'
  ·show(setB s.tk k false).1[m]? =_
   rw[setB_at _ _ hk8,if_neg (Ne.symm hmk)];exact ht'
 ·exact⟨j,m,⟨s',by rw[List.getElem?_set_ne (Ne.symm e)];exact hs',hc',ht'⟩,hl.k8,hl.i32,hl.ln⟩
end G
end Go.Proofs.YtjidffamcdcecaaGreat
namespace Go.Proofs.YtjidffamcdcecaaGreat.V
open Go Go.RowKit
open Go.Sort (putRow putCells mapBlock grow Holds ahead flatK putRowK HoldsK)
open Go.Proofs (sortWorldK)
set_option linter.unusedVariables false
theorem putCells_flat {α:Type}{enc:α→List Value}{k:Nat}(hk:∀x,(enc x).length=k)(l l':List α)(hl:l'.length=l.length)(rest:List Value):putCells id 0 (l'.flatMap enc).toArray (l.flatMap enc++rest).toArray=(l'.flatMap enc++rest).toArray:=by
 have h1:=flatMap_len hk l
 have h2:=flatMap_len hk l'
 have h3:(l'.flatMap enc).length=(l.flatMap enc).length:=by rw[h1,h2,hl]
 apply Array.ext
 ·simp only[putCells,Array.size_mapIdx,List.size_toArray,List.length_append];omega
 ·intro j hj1 hj2
  simp only[putCells,Array.getElem_mapIdx,Nat.zero_le,true_and,Nat.zero_add,Nat.sub_zero,List.size_toArray,id_eq,List.getElem_toArray]
  split
  ·rename_i h
   rw[List.getElem_append_left h,getElem!_pos _ _ (by simpa using h)]
   simp
  ·rename_i h
   rw[List.getElem_append_right (by omega),List.getElem_append_right (by omega)]
   congr 1;omega
section
variable {α:Type}[Inhabited α]
theorem flatK_eq {enc:α→List Value}{k:Nat}(hk:∀x,(enc x).length=k)(l:List α):flatK enc k l.toArray=(l.flatMap enc).toArray:=by
 apply Array.ext
 ·rw[Go.Sort.size_flatK];simp only[List.size_toArray];rw[flatMap_len hk]
 ·intro j h1 h2
  rw[Go.Sort.size_flatK,List.size_toArray] at h1
  have h3:=Go.Sort.get_flatK enc k l.toArray j (by simpa using h1)
  rw[getElem!_pos _ j (by rw[Go.Sort.size_flatK];simpa using h1)] at h3
  rw[h3]
  have h4:=flatMap_get hk l h1
  rw[List.getElem?_eq_getElem (by rw[flatMap_len hk];exact h1)] at h4
  have h5:=(List.getElem?_eq_some_iff.1 h4.symm)
  obtain⟨h6,h7⟩:=h5
  have e1:(l.toArray[j/k]! :α)=l[j/k]! :=by simp
  rw[e1,getElem!_pos (enc (l[j/k]!)) _ h6,h7]
  simp
theorem holdsK_own {enc:α→List Value}{k T g:Nat}(hk:∀x,(enc x).length=k)(l:List α)(rest:List Value){w:World}(h:w.heap[g]? =some (.cells (l.flatMap enc++rest).toArray T (0,0))):HoldsK enc k w g 0 l.toArray:=by
 unfold HoldsK
 rw[flatK_eq hk]
 intro j hj
 simp only[List.size_toArray] at hj
 refine⟨?_,frozen_of h⟩
 refine cell_of_block h ?_
 rw[Nat.zero_add,List.getElem?_append_left hj,List.getElem?_eq_getElem hj]
 rw[getElem!_pos _ _ (by simpa using hj)]
 simp
theorem sorted_hp {enc:α→List Value}{k T g m:Nat}(hk:∀x,(enc x).length=k)(l l':List α)(hl:l'.length=l.length)(rest:List Value){w:World}(os:Array Obj)(h:w.heap[g]? =some (.cells (l.flatMap enc++rest).toArray T (0,0))):
 Hp ⟨w,[g]⟩ [[(g,.cells (l'.flatMap enc++rest).toArray T (0,0))]] (sortWorldK enc k w g 0 m l'.toArray os):=by
 have hlt:g<w.heap.size:=lt_of_some h
 have hheap:(sortWorldK enc k w g 0 m l'.toArray os).heap=(w.heap.modify g (Go.Sort.onCells (putCells id 0 (l'.flatMap enc).toArray)))++os:=by
  unfold sortWorldK putRowK putRow mapBlock grow
  rw[flatK_eq hk];rfl
 have hg:(sortWorldK enc k w g 0 m l'.toArray os).heap[g]? =some (.cells (l'.flatMap enc++rest).toArray T (0,0)):=by
  rw[hheap,Array.getElem?_append_left (by simpa using hlt),Array.getElem?_modify,if_pos rfl,h]
  simp only[Option.map_some,Go.Sort.onCells]
  rw[putCells_flat hk l l' hl]
 refine⟨rfl,rfl,rfl,by rw[hheap];simp,fun b hb hf=>?_,fun p hp=>?_,fun p hp=>?_,by simp⟩
 ·have hne:b≠g:=fun e=>hf (by simp[e])
  rw[hheap,Array.getElem?_append_left (by simpa using hb),Array.getElem?_modify,if_neg (fun e=>hne e.symm)]
 ·simp at hp;subst hp;exact hg
 ·simp at hp;subst hp;exact .inr (by simp)
end
theorem hp_of_below {e sz n:Nat}{v:Value}{xs:List Value}{w w':World}(hb:Below w.heap.size w w')(hr:w'.ownsRow w.heap.size e sz v n xs):∃o,v=ownV n o∧ownOk sz n xs o∧Hp ⟨w,[]⟩ [ownG e xs o] w':=by
 have h0:Hp ⟨w,[]⟩ [] w':=⟨hb.os,hb.tape,hb.output,hb.size,fun b h1 _=>hb.block b h1,by simp,by simp,by simp⟩
 obtain⟨hlen,⟨rfl,h⟩|⟨g,cap,cur,rfl,hbg,hg,hnc,hcm,hcs,htake⟩⟩:=hr
 ·subst h
  have:xs=[]:=List.length_eq_zero_iff.1 (by omega)
  subst this
  exact⟨none,rfl,⟨by simp,rfl⟩,h0.perm (.refl _)⟩
 ·have hcur:cur=(xs++cur.toList.drop (n*sz)).toArray:=by rw[← htake,List.take_append_drop]
  refine⟨some (g,cur.toList.drop (n*sz),cap),rfl,⟨hlen,?_⟩,?_⟩
  ·have hle:n*sz≤cap*sz:=Nat.mul_le_mul_right _ hnc
   simp only[List.length_drop,Array.length_toList,hcs,hlen]
   omega
  ·have h2:=h0.cons (o:= .cells (xs++cur.toList.drop (n*sz)).toArray e (0,0)) (y:=g) (by rw[← hcur];exact hg) (.inl hbg) (by simp[ids])
   exact h2.perm (by simp[ownG,ownS])
end Go.Proofs.YtjidffamcdcecaaGreat.V
namespace Go.Proofs
open Go.Shelf
def Tryz.lays106_ren:Go.Shelf.Ren:=⟨fun|106=>69|213=>92|265=>136|n=>n,fun|9=>9|3=>3|n=>n,fun|n=>n⟩
theorem Tryz.lays106:Go.Proofs.Lays.n106 Tryz.prog Tryz.lays106_ren:={
 mixed:=by kernel_rfl
 f106:=Tryz.func69.trans (congrArg some (by kernel_rfl))
 f213:=Tryz.func92.trans (congrArg some (by kernel_rfl))
 f265:=Tryz.func136.trans (congrArg some (by kernel_rfl))
 t3:=Tryz.underlying3
 a3:=Tryz.isAgg3
 z3:=Tryz.sizeOf3
 v3:=Tryz.zeroValue3
 t9:=Tryz.underlying9
 a9:=Tryz.isAgg9
 z9:=Tryz.sizeOf9
 v9:=Tryz.zeroValue9}
open Go.RowKit in
theorem Tryz.strings_Compare (a b:ByteArray)(w:World):
 Calls Tryz.prog 69 #[.string a,.string b] w fun e w'=>e= .returned (.int .i64 (Lib.compareBytes a.data.toList b.data.toList))∧w'=w:=Any.strings_Compare Tryz.lays106 a b w
def Tryz.sortF67_ren:Go.Shelf.Ren:=⟨fun|6=>67|15=>91|14=>90|28=>134|29=>135|20=>126|21=>127|22=>128|23=>129|24=>130|25=>131|26=>132|27=>133|46=>176|47=>177|48=>178|49=>179|50=>180|57=>223|n=>n,fun|22=>104|24=>108|25=>173|3=>3|39=>114|0=>0|53=>93|55=>48|4=>4|46=>241|45=>240|50=>245|5=>5|9=>9|66=>288|70=>291|76=>330|77=>331|n=>n,fun|n=>n⟩
theorem Tryz.sortF67:Go.Proofs.SlLaysF0.n6 Tryz.prog Tryz.sortF67_ren:={
 mixed:=by kernel_rfl
 f6:=⟨Tryz.f67.name,by decide,Tryz.func67.trans (congrArg some (by kernel_rfl))⟩
 f14:=⟨Tryz.f90.name,by decide,Tryz.func90.trans (congrArg some (by kernel_rfl))⟩
 f15:=Tryz.func91.trans (congrArg some (by kernel_rfl))
 f20:=⟨Tryz.f126.name,by decide,Tryz.func126.trans (congrArg some (by kernel_rfl))⟩
 f21:=⟨Tryz.f127.name,by decide,Tryz.func127.trans (congrArg some (by kernel_rfl))⟩
 f22:=⟨Tryz.f128.name,by decide,Tryz.func128.trans (congrArg some (by kernel_rfl))⟩
 f23:=⟨Tryz.f129.name,by decide,Tryz.func129.trans (congrArg some (by kernel_rfl))⟩
 f24:=⟨Tryz.f130.name,by decide,Tryz.func130.trans (congrArg some (by kernel_rfl))⟩
 f25:=⟨Tryz.f131.name,by decide,Tryz.func131.trans (congrArg some (by kernel_rfl))⟩
 f26:=⟨Tryz.f132.name,by decide,Tryz.func132.trans (congrArg some (by kernel_rfl))⟩
 f27:=⟨Tryz.f133.name,by decide,Tryz.func133.trans (congrArg some (by kernel_rfl))⟩
 f28:=Tryz.func134.trans (congrArg some (by kernel_rfl))
 f29:=Tryz.func135.trans (congrArg some (by kernel_rfl))
 f46:=⟨Tryz.f176.name,by decide,Tryz.func176.trans (congrArg some (by kernel_rfl))⟩
 f47:=Tryz.func177.trans (congrArg some (by kernel_rfl))
 f48:=Tryz.func178.trans (congrArg some (by kernel_rfl))
 f49:=⟨Tryz.f179.name,by decide,Tryz.func179.trans (congrArg some (by kernel_rfl))⟩
 f50:=⟨Tryz.f180.name,by decide,Tryz.func180.trans (congrArg some (by kernel_rfl))⟩
 f57:=⟨Tryz.f223.name,by decide,Tryz.func223.trans (congrArg some (by kernel_rfl))⟩
 t0:=Tryz.underlying0
 a0:=Tryz.isAgg0
 z0:=Tryz.sizeOf0
 v0:=Tryz.zeroValue0
 t3:=Tryz.underlying3
 a3:=Tryz.isAgg3
 z3:=Tryz.sizeOf3
 v3:=Tryz.zeroValue3
 t4:=Tryz.underlying4
 a4:=Tryz.isAgg4
 z4:=Tryz.sizeOf4
 v4:=Tryz.zeroValue4
 t5:=Tryz.underlying5
 a5:=Tryz.isAgg5
 z5:=Tryz.sizeOf5
 v5:=Tryz.zeroValue5
 t9:=Tryz.underlying9
 a9:=Tryz.isAgg9
 z9:=Tryz.sizeOf9
 v9:=Tryz.zeroValue9
 t22:=Tryz.underlying104
 a22:=Tryz.isAgg104
 z22:=Tryz.sizeOf104
 v22:=Tryz.zeroValue104
 t25:=Tryz.underlying173
 a25:=Tryz.isAgg173
 z25:=Tryz.sizeOf173
 v25:=Tryz.zeroValue173
 t39:=Tryz.underlying114
 a39:=Tryz.isAgg114
 z39:=Tryz.sizeOf114
 v39:=Tryz.zeroValue114
 t45:=Tryz.underlying240
 a45:=Tryz.isAgg240
 z45:=Tryz.sizeOf240
 v45:=Tryz.zeroValue240
 t46:=Tryz.underlying241
 a46:=Tryz.isAgg241
 z46:=Tryz.sizeOf241
 v46:=Tryz.zeroValue241
 t50:=Tryz.underlying245
 a50:=Tryz.isAgg245
 z50:=Tryz.sizeOf245
 v50:=Tryz.zeroValue245
 t53:=Tryz.underlying93
 a53:=Tryz.isAgg93
 z53:=Tryz.sizeOf93
 v53:=Tryz.zeroValue93
 t55:=Tryz.underlying48
 a55:=Tryz.isAgg48
 z55:=Tryz.sizeOf48
 v55:=Tryz.zeroValue48
 t66:=Tryz.underlying288
 a66:=Tryz.isAgg288
 z66:=Tryz.sizeOf288
 v66:=Tryz.zeroValue288
 t70:=Tryz.underlying291
 a70:=Tryz.isAgg291
 z70:=Tryz.sizeOf291
 v70:=Tryz.zeroValue291
 t76:=Tryz.underlying330
 a76:=Tryz.isAgg330
 z76:=Tryz.sizeOf330
 v76:=Tryz.zeroValue330
 t77:=Tryz.underlying331
 a77:=Tryz.isAgg331
 z77:=Tryz.sizeOf331
 v77:=Tryz.zeroValue331}
end Go.Proofs
namespace Go.Proofs.YtjidffamcdcecaaGreat
open Go Go.RowKit V
set_option linter.unusedVariables false
set_option maxRecDepth 100000
namespace G
section
attribute [local irreducible] V.CW V.LW V.QW V.RW V.PQ V.Val V.Eff V.Qcall
open V (str byC ownV ownG ownS ownOk)
instance:Cal Tryz.prog 67:=⟨Tryz.call67⟩
instance:Inhabited Lk:=⟨lk0⟩
theorem cmpB_lt:∀a b:List UInt8,Go.Lib.compareBytes a b<0↔a<b
 |[],[]=>by simp[Go.Lib.compareBytes]
 |[],_::_=>by simp[Go.Lib.compareBytes]
 |_::_,[]=>by simp[Go.Lib.compareBytes]
 |a::x,b::y=>by
  have ih:=cmpB_lt x y
  unfold Go.Lib.compareBytes
  rw[List.cons_lt_cons_iff]
  by_cases h1:a<b
  ·simp[h1]
  ·by_cases h2:b<a
   ·have h3:a≠b:=fun e=>by subst e;exact UInt8.lt_irrefl a h2
    simp[h1,h2,h3]
   ·have h3:a=b:=UInt8.toNat_inj.1 (by rw[UInt8.lt_iff_toNat_lt] at h1 h2;omega)
    subst h3
    simp[h1,ih]
def cfL (x y:Lk):Int:=Go.Lib.compareBytes (byK x.key).data.toList (byK y.key).data.toList
theorem lt_cfL (x y:Lk):Go.Proofs.ltOf cfL x y=decide (x.key<y.key):=by
 unfold Go.Proofs.ltOf
 exact decide_eq_decide.2 (cmpB_lt x.key y.key)
theorem swoL:Go.Sort.SWO (Go.Proofs.ltOf cfL) where
 irrefl x:=by rw[lt_cfL];simp
 trans x y z h1 h2:=by
  rw[lt_cfL] at*
  simp only[decide_eq_true_eq] at*
  exact List.lt_trans h1 h2
 ntrans x y z h1 h2:=by
  rw[lt_cfL] at*
  simp only[decide_eq_false_iff_not,List.not_lt] at*
  exact List.le_trans h2 h1
set_option maxHeartbeats 1000000 in
theorem cmp77_c (x y:Lk)(W:World):Calls Tryz.prog 68 #[.agg #[.string (byK x.key),.int .u64 x.id,.int .u64 x.ver,.int .i64 x.line,.int .i64 x.cls],.agg #[.string (byK y.key),.int .u64 y.id,.int .u64 y.ver,.int .i64 y.line,.int .i64 y.cls]] W fun e w'=>e= .returned (.int .i64 (cfL x y))∧∃q os',w'=Go.Sort.grow (W.drewN q) os':=by
 have hcon:=fun W'=>Tryz.strings_Compare (byK x.key) (byK y.key) W'
 unfold cfL
 generalize Go.Lib.compareBytes (byK x.key).data.toList (byK y.key).data.toList=r at hcon⊢
 go_enter Tryz.func68,Tryz.ntmps68
 go_wp2_with (go_at_call 69;refine(hcon _).mono ?_;rintro e w' ⟨rfl,rfl⟩)
 go_ret
 exact⟨rfl,0,_,by rw[Go.Sort.alloc_eq_grow,Go.Sort.alloc_eq_grow,Go.Sort.grow_grow];rfl⟩
def UpL (L:List Lk):Prop:=L.Pairwise fun a b=>¬b.key<a.key
theorem upL_of {L:List Lk}(h:Go.Sort.SortedIn (Go.Proofs.ltOf cfL) 0 L.length L.toArray):UpL L:=by
 refine List.pairwise_iff_getElem.2 fun i j hi hj hij=>?_
 have:=h i j (Nat.zero_le _) hij hj
 rw[lt_cfL] at this
 simp only[decide_eq_false_iff_not] at this
 have e1:(L.toArray[i]! :Lk)=L[i]:=by simp[hi]
 have e2:(L.toArray[j]! :Lk)=L[j]:=by simp[hj]
 rwa [e1,e2] at this
theorem sortL_c (o:V.OwnO)(L:List Lk)(hok:ownOk 5 L.length (L.flatMap lkC) o)(hl:L.length≤100000):Mo Tryz.prog 67 [ownV L.length o,.func (.func 68) #[] #[]] [ownG 108 (L.flatMap lkC) o] (fun L':List Lk=>L'.Perm L∧UpL L') (fun _=> .tuple #[]) (fun L'=>[ownG 108 (L'.flatMap lkC) o]):=by
 intro w hs
 rcases o with _|⟨g,rest,cap⟩
 ·have h0:L.length=0:=hok.2
  have:L=[]:=List.length_eq_zero_iff.1 h0
  subst this
  refine(AnyF.slices_SortFunc_none Tryz.sortF67 none 0 (.func (.func 68) #[] #[]) w).mono fun e w' ⟨h1,h2⟩=>⟨[],⟨.refl _,.nil⟩,h1,?_⟩
  subst h2
  exact⟨rfl,rfl,rfl,Nat.le_refl _,fun _ _ _=>rfl,by simp[ownG,V.ownS],by simp[ownG,V.ownS],by simp[ownG,V.ownS]⟩
 ·have hown:w.heap[g]? =some (.cells (L.flatMap lkC++rest).toArray 108 (0,0)):=hs.own (g,.cells (L.flatMap lkC++rest).toArray 108 (0,0)) (by simp[ownG,V.ownS])
  have eg:∀args w,(callFunc 68 args).run Tryz.prog w= .ok (.enter 68 args) w:=enters_of Tryz.func68 kr_ rfl
  have hcon:=AnyQ.slices_SortFunc Tryz.sortF67 5 Tryz.isAgg108 Tryz.sizeOf108 lkC (fun _=>rfl) (fun x v hv=>by simp[lkC] at hv;rcases hv with rfl|rfl|rfl|rfl|rfl<;>rfl) cfL swoL 68 #[] g 0 cap L.toArray w eg (fun _ _ _ _ x y=>cmp77_c x y _) (V.holdsK_own (enc:=lkC) (k:=5) (fun _=>rfl) L rest hown) (V.lt_of_some hown) (by simp;omega)
  change Calls Tryz.prog 67 _ _ _ at hcon
  refine hcon.mono fun e w' ⟨h1,d',m,os,hp,hso,hw⟩=>?_
  obtain⟨h2,_,h4⟩:=hp
  simp only[List.size_toArray] at h2 h4 hso
  have h5:d'.toList.length=L.length:=by simpa using h2
  have h6:d'.toList.Perm L:=by
   have e1:d'.extract 0 L.length=d':=by rw[← h2];simp
   have e2:L.toArray.extract 0 L.length=L.toArray:=by simp
   rw[e1,e2] at h4
   simpa using h4
  refine⟨d'.toList,⟨h6,upL_of (by rw[h5];simpa using hso)⟩,h1,?_⟩
  subst hw
  have h7:=V.sorted_hp (enc:=lkC) (k:=5) (T:=108) (g:=g) (m:=m) (fun _=>rfl) L d'.toList h5 rest os hown
  simp only[Array.toArray_toList] at h7
  simpa[ownG,V.ownS,ids] using h7
def tLinks (Tz:Tbl):List Lk:=Tz.flatMap fun p=>p.1.map (·.2)
def tStp (Tz:Tbl):Prop:=∀p∈Tz,V.Stp (me p.1) p.2
def unW (v:Value):Lk:=match v with
 | .agg a=>match a.toList with
  |[.string k,.int _ i,.int _ v,.int _ l,.int _ c]=>⟨k.data.toList,i,v,l,c⟩
  |_=>lk0
 |_=>lk0
theorem unW_lk (x:Lk):unW (lkW x)=x:=rfl
theorem me_un (E:LE):(me E).map (fun e=>unW e.2.2)=E.map (·.2):=by
 unfold me
 rw[List.map_map]
 exact List.map_congr_left fun e _=>unW_lk e.2
theorem me_app (E F:LE):me (E++F)=me E++me F:=by unfold me;exact List.map_append
theorem tLinks_take {Tz:Tbl}{k:Nat}{p:LE×Nat}(h:Tz[k]? =some p):tLinks (Tz.take (k+1))=tLinks (Tz.take k)++p.1.map (·.2):=by
 unfold tLinks
 rw[List.take_add_one,h,Option.toList_some,List.flatMap_append,List.flatMap_singleton]
theorem tLinks_le {Tz:Tbl}(k:Nat):(tLinks (Tz.take k)).length≤(tLinks Tz).length:=by
 have e:tLinks Tz=tLinks (Tz.take k)++tLinks (Tz.drop k):=by
  unfold tLinks
  rw[← List.flatMap_append,List.take_append_drop]
 rw[e,List.length_append];omega
theorem tbC_len (ms:List Nat):(tbC ms).length=ms.length:=by unfold tbC;rw[List.length_map]
theorem tbC_get {ms:List Nat}{i m:Nat}(h:ms[i]? =some m):(tbC ms)[i]? =some (.map (some m)):=by
 have h8:=tbC_at h
 simpa using h8
theorem all_g (tb:Nat)(ms:List Nat)(Tz:Tbl)(hT:tbOk ms Tz)(hst:tStp Tz)(hn:(tLinks Tz).length≤1000)(w:World)(hs:Sat (tbS tb ms Tz) w):Calls Tryz.prog 34 [.pointer (some ⟨tb,0,none⟩)].toArray w fun e w'=>∃y:V.OwnO×List Lk,(y.2.Perm (tLinks Tz)∧UpL y.2∧ownOk 5 y.2.length (y.2.flatMap lkC) y.1)∧e= .returned (ownV y.2.length y.1)∧Hp ⟨w,V.ids ((tbS tb ms Tz))⟩ (ownG 108 (y.2.flatMap lkC) y.1::tbS tb ms Tz) w':=by
 refine Cs_ (tbS tb ms Tz) Tryz.func34 rfl Tryz.ntmps34 hs<|pA_ 26 ?_
 refine Lv (La (tbC ms) (r:=[]) (hl:=by simp) (hs:=by rw[tbC_len,hT.1];exact Tryz.sizeOf168))<|pA_ 4 ?_
 refine V.CW.perm (sg':=ownG 108 ([].flatMap lkC) none::tbS tb ms Tz) ?_ (by simp[V.ownG_none])
 refine loopA (γ:=Nat×V.OwnO×List Lk) (fun k=>[(3,ownV k.2.2.length k.2.1),(14,.agg (tbC ms).toArray),(15,.int .i64 (k.1:Nat))]) (fun k=>ownG 108 (k.2.2.flatMap lkC) k.2.1::tbS tb ms Tz) (fun k=>k.1≤8∧k.2.2.Perm (tLinks (Tz.take k.1))∧ownOk 5 k.2.2.length (k.2.2.flatMap lkC) k.2.1) (fun k=>8-k.1) ((0,none,[])) ⟨Nat.zero_le _,by simp[tLinks],⟨rfl,rfl⟩⟩ fun k=>?_
 rintro⟨hk1,hk2,hk3⟩
 refine pA_ 6 ?_
 refine Cd_ rfl (fun h16=>?_) fun h16=>?_
 ·have hbk:k.1<8:=by omega
  obtain⟨m,hm⟩:∃m,ms[k.1]? =some m:=⟨ms[k.1]'(by rw[hT.1];omega),by simp⟩
  obtain⟨p,hp⟩:∃p,Tz[k.1]? =some p:=⟨Tz[k.1]'(by rw[hT.2];omega),by simp⟩
  have hsp:=hst p (List.mem_of_getElem? hp)
  have htk:=tLinks_take hp
  have htl:=tLinks_le (Tz:=Tz) (k.1+1)
  refine Sk<|Ps<|Sq<|Bk<|Sq<|Rg<|Lv (Val.indexArr (i:=k.1) rfl rfl Tryz.underlying168 Tryz.sizeOf167 Tryz.isAgg167 om_ (tbC_get hm))<|Lv Av<|Nl<|Ps<|Sq<|Rg<|Lv Mv<|Le (Eff.range (E:=me p.1) (c:=p.2) rfl Tryz.underlying167 (by repeat(first|exact InS.nth (tbM_at hm hp)|refine .there ?_))) fun b19 _=>Nl<|Ps<|Bk<|loopA (γ:=V.OwnO×List Lk×LE) (fun j=>[(3,ownV j.2.1.length j.1),(14,.agg (tbC ms).toArray),(15,.int .i64 (k.1:Nat)),(19,.pointer (some ⟨b19,0,none⟩))]) (fun j=>ownG 108 (j.2.1.flatMap lkC) j.1::[(b19,V.itO m p.2 (me j.2.2))]::tbS tb ms Tz) (fun j=>V.Vis (me p.1) (me j.2.2)∧j.2.1=k.2.2++j.2.2.map (·.2)∧ownOk 5 j.2.1.length (j.2.1.flatMap lkC) j.1) (fun j=>(me p.1).length-(me j.2.2).length) ((k.2.1,k.2.2,[])) ⟨V.Vis.nil _,by simp,hk3⟩ fun j=>?_
  rintro⟨hv,hjv,hj3⟩
  have hjl:j.2.1.length≤2000:=by
   have h1:=congrArg List.length hjv
   have h2:=hk2.length_eq
   have h3:=tLinks_le (Tz:=Tz) k.1
   have h4:=hv.le
   have h5:=congrArg List.length htk
   simp only[me,List.length_map,List.length_append] at h1 h4 h5
   omega
  refine Sq<|Rg<|Le (Eff.next (E:=me p.1) (D:=me j.2.2) rfl (by repeat(first|exact InS.nth (tbM_at hm hp)|refine .there ?_)) hsp (fun e=>up_)) fun oe he=>?_
  rcases oe with _|e
  ·dsimp only at he⊢
   refine pA_ 15 ?_
   exact roundA ((k.1+1,j.1,j.2.1)) ⟨by simp only;omega,by simp only;rw[htk,hjv];refine hk2.append ?_;have h8:=(hv.perm hsp.nd he).map fun e=>unW e.2.2;rw[me_un,me_un] at h8;exact h8,hj3⟩ (by simp only;omega)
  ·dsimp only at he⊢
   obtain⟨x,hx1,hx2⟩:=List.mem_map.1 (show e∈List.map _ p.1 from he.1)
   have hvl:=hv.lt he.1 he.2
   subst hx2
   refine Lv Ex<|Nl<|Ps<|Sq<|Ct<|Sk<|Ps<|Bk<|Sq<|Rg<|Lv (Val.entry rfl in_ (by repeat(first|exact InS.nth (tbM_at hm hp)|refine .there ?_)) he.1 hsp.nd)<|Lv Ex<|LW.re 23 (.agg (lkC x.2).toArray) rfl (by rfl)<|Le AA fun b7 _=>LeN StW fun _ _=>Nl<|Ps<|Rg<|Lv Mv<|Lv Lw<|Le (Eff.buildSlice (rfl) [_,_,_,_,_] Tryz.underlying104 Tryz.sizeOf108 (by exact Tryz.zeroValue108) rfl rfl rfl rfl (by rfl)) fun b26 _=>Le (Eff.appendAny (lkC x.2) (sz:=5) (bytes:=48) (z:= .agg #[.string ⟨#[]⟩,.int .u64 0,.int .u64 0,.int .i64 0,.int .i64 0]) (xs:=j.2.1.flatMap lkC) (m0:=j.2.1.length) (o:=j.1) (m:=1) (pk:=[ownG 108 (j.2.1.flatMap lkC) (j.1)]) rfl rfl Tryz.underlying104 kr_ rfl om_ pk_ (by simp) hj3 (by rfl) (fun hm0=>⟨b26,0,rfl,fun w hw=>V.range_of_block (o:=0) (cs:=lkC x.2) (r:=[]) (hw.own _ (show InS (b26,.cells (lkC x.2).toArray 108 (0,0)) _ from in_).mem) rfl⟩) (by rfl) om_ om_) fun o2 ho2=>Lv Av<|Nl<|Bn ?_
   have e1:(j.2.1++[x.2]).flatMap lkC=j.2.1.flatMap lkC++lkC x.2:=by simp
   have e2:(j.2.1++[x.2]).length=j.2.1.length+1:=by simp
   have e3:me (j.2.2++[x])=me j.2.2++[(x.1,byK x.2.key,lkW x.2)]:=me_app _ _
   rw[← e1,← e2,← e3]
   exact roundA ((o2,j.2.1++[x.2],j.2.2++[x])) ⟨by rw[me_app];exact hv.snoc he.1 he.2,by simp only;rw[hjv];simp,by simpa using ho2⟩ (by simp only[me_app,List.length_append];simp only[me,List.map_cons,List.map_nil,List.length_singleton] at hvl⊢;omega)
 ·refine pA_ 8 ?_
  refine Le (Cm_ (sortL_c k.2.1 k.2.2 hk3 (by have h2:=hk2.length_eq;have h3:=tLinks_le (Tz:=Tz) k.1;omega))) fun L2 hL2=>pA_ 9 ?_
  refine Rt1 fun w' hw=>?_
  have hk8:k.1=8:=by omega
  rw[hk8,List.take_of_length_le (by rw[hT.2];omega)] at hk2
  have hll:=hL2.1.length_eq
  refine⟨(k.2.1,L2),⟨hL2.1.trans hk2,hL2.2,⟨by rw[V.flatMap_len (k:=5) (fun _=>rfl)],?_⟩⟩,by rw[hll],?_⟩
  ·have h1:=hk3.2
   have h2:=hk3.1
   rw[V.flatMap_len (enc:=lkC) (k:=5) (fun _=>rfl) L2,hll]
   rw[h2] at h1
   exact h1
  ·exact hw.pick pk_
end
end G
end Go.Proofs.YtjidffamcdcecaaGreat
namespace Go.Proofs.YtjidffamcdcecaaGreat
open Go Go.RowKit V
set_option linter.unusedVariables false
set_option maxRecDepth 100000
set_option maxHeartbeats 1000000
namespace G
section
attribute [local irreducible] V.CW V.LW V.QW V.RW V.PQ V.Val V.Eff V.Qcall
open V (str byC ownV ownG ownS ownOk)
theorem places112:∀w,((Array.mapM (fun(f:Field)=>do pure (f.offset,← sizeOf f.type)) (Tryz.prog.fieldsOf 112):Sem (Array (Nat×Nat)))).run Tryz.prog w= .ok [(0,1),(1,1)].toArray w:=by
 intro w;kernel_rfl
instance:Und Tryz.prog 37 (dOf Tryz.underlying37):=⟨Tryz.underlying37⟩
instance:Siz Tryz.prog 37 (kOf Tryz.sizeOf37):=⟨Tryz.sizeOf37⟩
instance:AgF Tryz.prog 37:=⟨Tryz.isAgg37⟩
instance:Und Tryz.prog 38 (dOf Tryz.underlying38):=⟨Tryz.underlying38⟩
instance:Siz Tryz.prog 38 (kOf Tryz.sizeOf38):=⟨Tryz.sizeOf38⟩
instance:AgF Tryz.prog 38:=⟨Tryz.isAgg38⟩
instance:Und Tryz.prog 40 (dOf Tryz.underlying40):=⟨Tryz.underlying40⟩
instance:Siz Tryz.prog 40 (kOf Tryz.sizeOf40):=⟨Tryz.sizeOf40⟩
instance:AgT Tryz.prog 40:=⟨Tryz.isAgg40⟩
instance:Zer Tryz.prog 40 (zOf Tryz.zeroValue40):=⟨Tryz.zeroValue40⟩
instance:Siz Tryz.prog 112 (kOf Tryz.sizeOf112):=⟨Tryz.sizeOf112⟩
instance:Zer Tryz.prog 112 (zOf Tryz.zeroValue112):=⟨Tryz.zeroValue112⟩
instance:Plc Tryz.prog 112 (fOf Tryz.underlying112) (lOf (P:=Tryz.prog) places112):=⟨places112,Tryz.underlying112⟩
instance:Cal Tryz.prog 10:=⟨Tryz.call10⟩
instance:Cal Tryz.prog 33:=⟨Tryz.call33⟩
instance:Cal Tryz.prog 34:=⟨Tryz.call34⟩
instance:Cal Tryz.prog 35:=⟨Tryz.call35⟩
instance:Cal Tryz.prog 36:=⟨Tryz.call36⟩
instance:Cal Tryz.prog 37:=⟨Tryz.call37⟩
instance:Cal Tryz.prog 71:=⟨Tryz.call71⟩
theorem atable_g (x:ArR)(s:ArS)(w:World)(ha:w.heap[x.a]? =some (.cells (arC x s).toArray 77 (0,0))):Calls Tryz.prog 33 [.pointer (some ⟨x.a,0,none⟩)].toArray w fun e w'=>e= .returned (.pointer (some ⟨x.tb,0,none⟩))∧Below w.heap.size w w':=by
 refine Cb_ Tryz.func33 rfl Tryz.ntmps33<|pA_ 20 ?_
 refine Lv (Val.loadO rfl Tryz.isAgg67 (V.lt_of_some ha) (by simp[ids]) (V.cell_of_block ha rfl))<|pA_ 5 ?_
 exact fb_
theorem aline_g (x:ArR)(s:ArS)(w:World)(ha:w.heap[x.a]? =some (.cells (arC x s).toArray 77 (0,0))):Calls Tryz.prog 36 [.pointer (some ⟨x.a,0,none⟩)].toArray w fun e w'=>e= .returned (.pointer (some ⟨x.fb,0,none⟩))∧Below w.heap.size w w':=by
 refine Cb_ Tryz.func36 rfl Tryz.ntmps36<|pA_ 20 ?_
 refine Lv (Val.loadO rfl Tryz.isAgg69 (V.lt_of_some ha) (by simp[ids]) (V.cell_of_block ha rfl))<|pA_ 5 ?_
 exact fb_
theorem apool_g (x:ArR)(s:ArS)(w:World)(ha:w.heap[x.a]? =some (.cells (arC x s).toArray 77 (0,0))):Calls Tryz.prog 211 [.pointer (some ⟨x.a,0,none⟩)].toArray w fun e w'=>e= .returned (.pointer (some ⟨x.pb,0,none⟩))∧Below w.heap.size w w':=by
 refine Cb_ Tryz.func211 rfl Tryz.ntmps211<|pA_ 20 ?_
 refine Lv (Val.loadO rfl Tryz.isAgg64 (V.lt_of_some ha) (by simp[ids]) (V.cell_of_block ha rfl))<|pA_ 5 ?_
 exact fb_
theorem adev_g (x:ArR)(s:ArS)(db:Nat)(w:World)(ha:w.heap[x.a]? =some (.cells (arC x s).toArray 77 (0,0)))(hd:w.heap[x.dv]? =some (.cells (avC db s).toArray 103 (0,0))):Calls Tryz.prog 10 [.pointer (some ⟨x.a,0,none⟩)].toArray w fun e w'=>e= .returned (.pointer (some ⟨db,0,none⟩))∧Below w.heap.size w w':=by
 refine Cb_ Tryz.func10 rfl Tryz.ntmps10<|pA_ 14 ?_
 refine Lv (Val.loadO rfl Tryz.isAgg63 (V.lt_of_some ha) (by simp[ids]) (V.cell_of_block ha rfl))<|pA_ 12 ?_
 refine Lv (Val.loadO rfl Tryz.isAgg63 (V.lt_of_some ha) (by simp[ids]) (V.cell_of_block ha rfl))<|Lv Nz<|Lv (Fa 0 35)<|Lv (Val.loadO rfl Tryz.isAgg35 (V.lt_of_some hd) (by simp[ids]) (V.cell_of_block hd rfl))<|pA_ 5 ?_
 exact fb_
theorem abytes_g (x:ArR)(s:ArS)(xd:DvR)(D:List Ce)(k:Cnt)(line c:Int)(hl: -1000000≤line∧line≤1000000):Mo Tryz.prog 71 [.pointer (some ⟨x.a,0,none⟩),.int .i64 line,.int .i64 c] ([(x.a,.cells (arC x s).toArray 77 (0,0))]::[(x.dv,.cells (avC xd.db s).toArray 103 (0,0))]::dvS xd D k) (fun o:V.OwnO=>ownOk 1 (linesL D line (spanF c)).length (byC (linesL D line (spanF c))) o) (fun o=>ownV (linesL D line (spanF c)).length o) (fun o=>ownG 5 (byC (linesL D line (spanF c))) o::([(x.a,.cells (arC x s).toArray 77 (0,0))]::[(x.dv,.cells (avC xd.db s).toArray 103 (0,0))]::dvS xd D k)):=by
 intro w hs
 have hsp8:=span_le c
 refine Ca_ Tryz.func71 rfl Tryz.ntmps71 hs<|pA_ 14 ?_
 refine Le (Cz_ (span_c c)) fun _ _=>pA_ 4 ?_
 refine V.CW.perm (sg':=ownG 5 (byC (linesL D line 0)) none::([(x.a,.cells (arC x s).toArray 77 (0,0))]::[(x.dv,.cells (avC xd.db s).toArray 103 (0,0))]::dvS xd D k)) ?_ (.refl _)
 refine loopA (γ:=Nat×V.OwnO) (fun j=>[(0,.pointer (some ⟨x.a,0,none⟩)),(1,.int .i64 line),(7,ownV (linesL D line j.1).length j.2),(12,.int .i64 (spanF c:Nat)),(13,.int .i64 (j.1:Nat))]) (fun j=>ownG 5 (byC (linesL D line j.1)) j.2::([(x.a,.cells (arC x s).toArray 77 (0,0))]::[(x.dv,.cells (avC xd.db s).toArray 103 (0,0))]::dvS xd D k)) (fun j=>j.1≤spanF c∧ownOk 1 (linesL D line j.1).length (byC (linesL D line j.1)) j.2) (fun j=>spanF c-j.1) ((0,none)) ⟨Nat.zero_le _,rfl,rfl⟩ fun j=>?_
 rintro⟨hj1,hj2⟩
 have hjl:=linesL_le D line j.1
 refine pA_ 6 ?_
 refine Cd_ rfl (fun h14=>?_) fun h14=>?_
 ·refine pA_ 13 ?_
  refine Le (CV fun w hw=>adev_g x s xd.db w hw.at hw.at) fun _ _=>pA_ 3 ?_
  refine Le (CM [] fun w hw hs0=>load_g xd D k (line+(j.1:Nat)) w (hw.sat.pick (ss:=dvS xd D k) pk_)) fun o2 ho2=>?_
  obtain⟨p2,c2,hv2,hc2,hsrc,hsl2⟩:=own_src ho2
  have hn64:=nowL_le D (line+(j.1:Nat))
  refine Lv Mv<|Lv Ex<|LW.re 23 (.slice p2 (nowL D (line+(j.1:Nat))).length c2) rfl hv2<|pA_ 8 ?_
  refine Le (Eff.appendAny (byC ((nowL D (line+(j.1:Nat))))) (sz:=1) (bytes:=1) (z:= .int .u8 0) (xs:=byC ((linesL D line j.1))) (m0:=(linesL D line j.1).length) (o:=j.2) (m:=(nowL D (line+(j.1:Nat))).length) (pk:=[ownG 5 (byC ((linesL D line j.1))) (j.2)]) rfl rfl Tryz.underlying133 kr_ rfl om_ pk_ (by simp) hj2 (by rw[V.byC_len];omega) (fun hm0=>by obtain⟨bq,hbq,hrq⟩:=hsrc hm0;exact⟨bq,0,hbq,fun w hw=>hrq hw pk_⟩) (V.byC_one _) om_ om_) fun o3 ho3=>?_
  rw[← V.byC_append,← linesL_succ] at*
  refine pA_ 8 ?_
  refine PQ.round ((j.1+1,o3)) ⟨by simp only;omega,by simp only;rw[show(linesL D line (j.1+1)).length=(linesL D line j.1).length+(nowL D (line+(j.1:Nat))).length by rw[linesL_succ,List.length_append]];exact ho3⟩ (by simp only;omega) (by exact⟨rfl,rfl,congrArg (fun z=>some (ownV z o3)) (by simp only;rw[linesL_succ,List.length_append]),rfl,rfl,trivial⟩) pk_
 ·have hj9:j.1=spanF c:=by omega
  obtain⟨j1,o⟩:=j
  simp only at hj9 hj2
  subst hj9
  refine pA_ 13 ?_
  exact fi_ o hj2
def valB (D:List Ce)(l:Lk):Blk:=(decF (linesL D l.line (spanF l.cls))).getD blk0
def valK (D:List Ce)(l:Lk)(kind:Int):Bool:=(decF (linesL D l.line (spanF l.cls))).isSome&&decide ((valB D l).kind=kind)&&decide ((valB D l).id=l.id)&&decide ((valB D l).ver=l.ver)&&decide ((valB D l).key=l.key)
theorem avalue_g (x:ArR)(s:ArS)(xd:DvR)(D:List Ce)(k:Cnt)(l:Lk)(kind:Int)(hl: -1000000≤l.line∧l.line≤1000000):Rx Tryz.prog 35 [.pointer (some ⟨x.a,0,none⟩),.agg (lkC l).toArray,.int .i64 kind] ([(x.a,.cells (arC x s).toArray 77 (0,0))]::[(x.dv,.cells (avC xd.db s).toArray 103 (0,0))]::dvS xd D k) (.tuple #[str (valB D l).val,.bool (valK D l kind)]):=by
 intro w hs
 have hsp8:=span_le l.cls
 have hll8:=linesL_le D l.line (spanF l.cls)
 refine Ca_ Tryz.func35 rfl Tryz.ntmps35 hs<|Sq<|Rg<|Le XA fun b4 _=>pA_ 8 ?_
 refine Lv (Ld (v:= .int .i64 l.line))<|Lv (Fa 4 3)<|Lv (Ld (v:= .int .i64 l.cls))<|Le (Cm_ (abytes_g x s xd D k l.line l.cls hl)) fun o ho=>?_
 obtain⟨pd,cd,hvd,hcd,_,hsd⟩:=own_src ho
 refine LW.re 16 (.slice pd (linesL D l.line (spanF l.cls)).length cd) rfl hvd<|Le (CV fun w hw=>decode_c (linesL D l.line (spanF l.cls)) pd cd om_ hcd w (hsd hw pk_)) fun _ _=>Lv Mv<|Lv Ex<|LW.re 18 (.agg (blC (valB D l)).toArray) rfl (by rfl)<|Lv Ex<|Le AA fun b8 _=>LeN StW fun _ _=>pA_ 4 ?_
 refine Qt<|Qv (Fa 6 9)<|Qv (Ld (v:=str (valB D l).val))<|Qv Mv<|Qv Mv ?_
 refine QW.split (d:=23) rfl (fun h23=>?_) (fun h23=>?_)
 ·replace h23:=bT h23
  refine Qv (Fa 1 3)<|Qv (Ld (v:= .int .i64 (valB D l).kind))<|pA_ 4 ?_
  refine QW.split (d:=29) rfl (fun h29=>?_) (fun h29=>?_)
  ·replace h29:=bT h29
   refine Qv (Fa 2 48)<|Qv (Ld (v:= .int .u64 (valB D l).id))<|Qv (Fa 1 48)<|Qv (Ld (v:= .int .u64 l.id))<|pA_ 3 ?_
   refine QW.split (d:=36) rfl (fun h36=>?_) (fun h36=>?_)
   ·replace h36:=bT h36
    refine Qv (Fa 3 48)<|Qv (Ld (v:= .int .u64 (valB D l).ver))<|Qv (Fa 2 48)<|Qv (Ld (v:= .int .u64 l.ver))<|pA_ 3 ?_
    refine QW.split (d:=43) rfl (fun h43=>?_) (fun h43=>?_)
    ·replace h43:=bT h43
     refine Qv (Fa 5 9)<|Qv (Ld (v:=str (valB D l).key))<|Qv (Fa 0 9)<|Qv (Ld (v:=str l.key))<|Qv ES<|pA_ 7 ?_
     intro w' hw;exact⟨by unfold valK;simp_all,hw.ro pk_ hs⟩
    ·replace h43:=bF h43
     refine pA_ 12 ?_
     intro w' hw;exact⟨by unfold valK;simp_all,hw.ro pk_ hs⟩
   ·replace h36:=bF h36
    refine pA_ 19 ?_
    intro w' hw;exact⟨by unfold valK;simp_all,hw.ro pk_ hs⟩
  ·replace h29:=bF h29
   refine pA_ 26 ?_
   intro w' hw;exact⟨by unfold valK;simp_all,hw.ro pk_ hs⟩
 ·replace h23:=bF h23
  refine pA_ 32 ?_
  intro w' hw;exact⟨by unfold valK;simp_all,hw.ro pk_ hs⟩
def pairsOf (D:List Ce)(L:List Lk):List (List UInt8×List UInt8):=L.filterMap fun l=>if valK D l 1=true then some (l.key,(valB D l).val) else none
def textsOf (D:List Ce)(L:List Lk):List (List UInt8):=L.filterMap fun l=>if valK D l 2=true then some (valB D l).val else none
def prC (p:List UInt8×List UInt8):List Value:=[str p.1,str p.2]
def txC (p:List UInt8):List Value:=[str p]
theorem prC_len (p:List UInt8×List UInt8):(prC p).length=2:=rfl
theorem txC_len (p:List UInt8):(txC p).length=1:=rfl
theorem fm_take {α β:Type}{f:α→Option β}{L:List α}{i:Nat}{x:α}(h:L[i]? =some x):(L.take (i+1)).filterMap f=(L.take i).filterMap f++(f x).toList:=by
 have e:List.filterMap f [x]=(f x).toList:=by cases h8:f x<;>simp[h8]
 rw[List.take_add_one,h,Option.toList_some,List.filterMap_append,e]
theorem fm_le {α β:Type}{f:α→Option β}(L:List α)(i:Nat):((L.take i).filterMap f).length≤L.length:=by
 have h1:=List.length_filterMap_le f (L.take i)
 rw[List.length_take] at h1
 omega
theorem nilSeg {P:_}{n:_}{B:_}{Q:_}{e:_}{ks:_}{sg:V.Sg}(h:V.CW P n B Q e ks ([]::sg)):V.CW P n B Q e ks sg:=V.CW.perm h (.refl _)
theorem ashelf_g (x:ArR)(s:ArS)(xd:DvR)(D:List Ce)(k:Cnt)(th:Nat)(hA:ArOk th D.length x s)(hst:tStp s.Tz)(hn:(tLinks s.Tz).length≤1000)(hq:(rgQ s.rg).length≤1000)(hln:(∀l∈tLinks s.Tz,-1000000≤l.line∧l.line≤1000000)∧(∀l∈rgQ s.rg,-1000000≤l.line∧l.line≤1000000))(w:World)(hs:Sat (arS x s xd.db++dvS xd D k) w):Calls Tryz.prog 11 [.pointer (some ⟨x.a,0,none⟩)].toArray w fun e w'=>∃y:List Lk×V.OwnO×V.OwnO,((y.1.Perm (tLinks s.Tz)∧UpL y.1)∧ownOk 2 (pairsOf D y.1).length ((pairsOf D y.1).flatMap prC) y.2.1∧ownOk 1 (textsOf D (rgQ s.rg)).length ((textsOf D (rgQ s.rg)).flatMap txC) y.2.2)∧e= .returned (.agg #[ownV (pairsOf D y.1).length y.2.1,ownV (textsOf D (rgQ s.rg)).length y.2.2])∧Hp ⟨w,V.ids ((arS x s xd.db++dvS xd D k))⟩ (ownG 112 ((pairsOf D y.1).flatMap prC) y.2.1::ownG 9 ((textsOf D (rgQ s.rg)).flatMap txC) y.2.2::arS x s xd.db++dvS xd D k) w':=by
 refine Cs_ (arS x s xd.db++dvS xd D k) Tryz.func11 rfl Tryz.ntmps11 hs<|Sq<|Rg<|Le AA fun b2 _=>pA_ 4 ?_
 refine Le AA fun b3 _=>pA_ 6 ?_
 refine Le (CV fun w hw=>atable_g x s w hw.at) fun _ _=>Le (CM (tbS x.tb x.ms s.Tz) fun w hw hs0=>all_g x.tb x.ms s.Tz hA.tb hst hn w hs0) fun y hy=>?_
 obtain⟨oL,L⟩:=y
 have hLp:L.Perm (tLinks s.Tz)∧UpL L∧ownOk 5 L.length (L.flatMap lkC) oL:=hy
 clear hy
 have hLl:L.length=(tLinks s.Tz).length:=hLp.1.length_eq
 obtain⟨pL,cL,hvL,_,_⟩:=own_slg (e:=108) lkC_len L oL hLp.2.2
 refine LW.re 14 (.slice pL L.length cL) rfl hvL<|pA_ 5 ?_
 refine nilSeg<|loopA (γ:=Nat×V.OwnO) (fun i=>[(0,.pointer (some ⟨x.a,0,none⟩)),(2,.pointer (some ⟨b2,0,none⟩)),(3,.pointer (some ⟨b3,0,none⟩)),(14,.slice pL L.length cL),(15,.int .i64 (L.length:Nat)),(16,.int .i64 (i.1:Nat))]) (fun i=>[(b3,.cells [ownV (pairsOf D (L.take i.1)).length i.2,ownV ([]:List (List UInt8)).length none].toArray 40 (0,0))]::ownG 112 ((pairsOf D (L.take i.1)).flatMap prC) i.2::[(b2,.cells [.slice none 0 0,.slice none 0 0].toArray 40 (0,0))]::ownG 108 (L.flatMap lkC) oL::(arS x s xd.db++dvS xd D k)) (fun i=>i.1≤L.length∧ownOk 2 (pairsOf D (L.take i.1)).length ((pairsOf D (L.take i.1)).flatMap prC) i.2) (fun i=>L.length-i.1) ((0,none)) ⟨Nat.zero_le _,rfl,rfl⟩ fun i=>?_
 rintro⟨hi1,hi2⟩
 refine pA_ 6 ?_
 refine Cd_ rfl (fun h17=>?_) fun h17=>?_
 ·have hik:i.1<L.length:=by omega
  obtain⟨l,hl⟩:∃l,L[i.1]? =some l:=⟨L[i.1]'hik,by simp⟩
  have hll:=hln.1 l (hLp.1.subset (List.mem_of_getElem? hl))
  obtain⟨g,rest,cap,hoL⟩:∃g r2 c,oL=some (g,r2,c):=by
   rcases oL with _|⟨g,r2,c⟩
   ·exact absurd hLp.2.2.2 om_
   ·exact⟨g,r2,c,rfl⟩
  subst hoL
  have hpL:pL=some ⟨g,0,none⟩:=by
   have h8:ownV L.length (some (g,rest,cap))= .slice (some ⟨g,0,none⟩) L.length cap:=rfl
   rw[h8] at hvL
   injection hvL with h9
   exact h9.symm
  subst hpL
  obtain⟨r9,hr9⟩:=V.drop_flatMap lkC_len L i.1 l hl
  have hr8:(L.flatMap lkC++rest).drop (i.1*5)=lkC l++(r9++rest):=by
   rw[List.drop_append_of_le_length (by rw[V.flatMap_len lkC_len];omega),hr9,List.append_assoc]
  refine pA_ 6 ?_
  refine Lv (Val.indexAddrN (i:=i.1) rfl rfl Tryz.underlying104 Tryz.sizeOf108 om_)<|LW.re 18 (.pointer (some ⟨g,i.1*5,none⟩)) rfl (by simp)<|Lv (La (lkC l) (hl:=hr8))<|Le AA fun b5 _=>LeN StW fun _ _=>pA_ 5 ?_
  refine Lv (Lw (l:=lkC l))<|Le (Cr_ (avalue_g x s xd D k l 1 hll)) fun _ _=>pA_ 12 ?_
  refine Cd_ rfl (fun h26=>?_) fun h26=>?_
  ·have h26:valK D l 1=true:=h26
   have hst2:pairsOf D (L.take (i.1+1))=(pairsOf D (L.take i.1))++[(l.key,(valB D l).val)]:=by unfold pairsOf;rw[fm_take hl,if_pos h26];rfl
   have hle:=fm_le (f:=fun l=>if valK D l 1=true then some (l.key,(valB D l).val) else none) L i.1
   replace hle:(pairsOf D (L.take i.1)).length≤L.length:=hle
   refine Rg<|Lv (Fa 0 37)<|Lv (Ld (v:=ownV (pairsOf D (L.take i.1)).length i.2))<|Lv (Fa 0 9)<|Lv (Ld (v:=str l.key))<|Lv Mv<|Lv (Bd (prC (l.key,(valB D l).val)))<|Le (Eff.buildSlice (rfl) [_,_] Tryz.underlying37 Tryz.sizeOf112 (by exact Tryz.zeroValue112) rfl rfl rfl rfl (by rfl)) fun b33 _=>Le (Eff.appendAny (prC (l.key,(valB D l).val)) (sz:=2) (bytes:=32) (z:= .agg #[.string ⟨#[]⟩,.string ⟨#[]⟩]) (xs:=(pairsOf D (L.take i.1)).flatMap prC) (m0:=(pairsOf D (L.take i.1)).length) (o:=i.2) (m:=1) (pk:=[ownG 112 ((pairsOf D (L.take i.1)).flatMap prC) (i.2)]) rfl rfl Tryz.underlying37 kr_ rfl om_ pk_ (by simp) hi2 (by rfl) (fun hm0=>⟨b33,0,rfl,fun w hw=>V.range_of_block (o:=0) (cs:=prC (l.key,(valB D l).val)) (r:=[]) (hw.own _ (show InS (b33,.cells (prC (l.key,(valB D l).val)).toArray 112 (0,0)) _ from in_).mem) rfl⟩) (by rfl) om_ om_) fun o2 ho2=>Lv (Fa 0 37)<|LeN (Eff.store (l':=[ownV ((pairsOf D (L.take i.1)).length+1) o2,ownV ([]:List (List UInt8)).length none]) rfl rfl (V.ownV_one _ _) up_ (by rfl) (by rfl) Tryz.sizeOf37) fun _ _=>Nl<|Bn<|Ps<|Rg<|Lv Ar<|Lv Mv<|Nl ?_
   rw[← show(pairsOf D (L.take (i.1+1))).flatMap prC=(pairsOf D (L.take i.1)).flatMap prC++prC (l.key,(valB D l).val) by rw[hst2,List.flatMap_append];rfl]
   rw[← show(pairsOf D (L.take (i.1+1))).length=(pairsOf D (L.take i.1)).length+1 by rw[hst2,List.length_append];rfl]
   exact roundA ((i.1+1,o2)) ⟨by simp only;omega,by simp only;rw[hst2,List.flatMap_append,List.length_append];exact ho2⟩ (by simp only;omega)
  ·have h26:valK D l 1=false:=h26
   have hst2:pairsOf D (L.take (i.1+1))=(pairsOf D (L.take i.1)):=by unfold pairsOf;rw[fm_take hl,if_neg (by rw[h26];decide)];simp
   refine pA_ 7 ?_
   rw[← hst2]
   exact roundA ((i.1+1,i.2)) ⟨by simp only;omega,by simp only;rw[hst2];exact hi2⟩ (by simp only;omega)
 ·obtain⟨i1,po⟩:=i
  have hi9:i1=L.length:=by simp only at hi1 h17;omega
  subst hi9
  replace hi2:ownOk 2 (pairsOf D L).length ((pairsOf D L).flatMap prC) po:=by have h8:=hi2;simp only[List.take_length] at h8;exact h8
  have hi0:=hi2
  simp only[List.take_length]
  refine pA_ 9 ?_
  refine Le (CV fun w hw=>aline_g x s w hw.at) fun _ _=>Le (CM (rgS 180 x.fb s.rg s.ro) fun w hw hs0=>lall_c x.fb s.rg s.ro hA.rg w hs0) fun oQ hQ=>?_
  obtain⟨pQ,cQ,hvQ,_,_⟩:=own_slg (e:=108) lkC_len (rgQ s.rg) oQ hQ
  refine LW.re 39 (.slice pQ (rgQ s.rg).length cQ) rfl hvQ<|pA_ 5 ?_
  refine nilSeg<|loopA (γ:=Nat×V.OwnO) (fun i=>[(0,.pointer (some ⟨x.a,0,none⟩)),(2,.pointer (some ⟨b2,0,none⟩)),(3,.pointer (some ⟨b3,0,none⟩)),(39,.slice pQ (rgQ s.rg).length cQ),(40,.int .i64 ((rgQ s.rg).length:Nat)),(41,.int .i64 (i.1:Nat))]) (fun i=>[(b3,.cells [ownV (pairsOf D L).length po,ownV (textsOf D ((rgQ s.rg).take i.1)).length i.2].toArray 40 (0,0))]::ownG 9 ((textsOf D ((rgQ s.rg).take i.1)).flatMap txC) i.2::ownG 112 ((pairsOf D L).flatMap prC) po::[(b2,.cells [.slice none 0 0,.slice none 0 0].toArray 40 (0,0))]::ownG 108 ((rgQ s.rg).flatMap lkC) oQ::(arS x s xd.db++dvS xd D k)) (fun i=>i.1≤(rgQ s.rg).length∧ownOk 1 (textsOf D ((rgQ s.rg).take i.1)).length ((textsOf D ((rgQ s.rg).take i.1)).flatMap txC) i.2) (fun i=>(rgQ s.rg).length-i.1) ((0,none)) ⟨Nat.zero_le _,rfl,rfl⟩ fun i=>?_
  rintro⟨hi1,hi2⟩
  refine pA_ 6 ?_
  refine Cd_ rfl (fun h42=>?_) fun h42=>?_
  ·have hik:i.1<(rgQ s.rg).length:=by omega
   obtain⟨l,hl⟩:∃l,(rgQ s.rg)[i.1]? =some l:=⟨(rgQ s.rg)[i.1]'hik,by simp⟩
   have hll:=hln.2 l (List.mem_of_getElem? hl)
   obtain⟨g,rest,cap,hoQ⟩:∃g r2 c,oQ=some (g,r2,c):=by
    rcases oQ with _|⟨g,r2,c⟩
    ·exact absurd hQ.2 om_
    ·exact⟨g,r2,c,rfl⟩
   subst hoQ
   have hpQ:pQ=some ⟨g,0,none⟩:=by
    have h8:ownV (rgQ s.rg).length (some (g,rest,cap))= .slice (some ⟨g,0,none⟩) (rgQ s.rg).length cap:=rfl
    rw[h8] at hvQ
    injection hvQ with h9
    exact h9.symm
   subst hpQ
   obtain⟨r9,hr9⟩:=V.drop_flatMap lkC_len (rgQ s.rg) i.1 l hl
   have hr8:((rgQ s.rg).flatMap lkC++rest).drop (i.1*5)=lkC l++(r9++rest):=by
    rw[List.drop_append_of_le_length (by rw[V.flatMap_len lkC_len];omega),hr9,List.append_assoc]
   refine pA_ 6 ?_
   refine Lv (Val.indexAddrN (i:=i.1) rfl rfl Tryz.underlying104 Tryz.sizeOf108 om_)<|LW.re 43 (.pointer (some ⟨g,i.1*5,none⟩)) rfl (by simp)<|Lv (La (lkC l) (hl:=hr8))<|Le AA fun b9 _=>LeN StW fun _ _=>pA_ 5 ?_
   refine Lv (Lw (l:=lkC l))<|Le (Cr_ (avalue_g x s xd D k l 2 hll)) fun _ _=>pA_ 12 ?_
   refine Cd_ rfl (fun h51=>?_) fun h51=>?_
   ·have h51:valK D l 2=true:=h51
    have hst2:textsOf D ((rgQ s.rg).take (i.1+1))=(textsOf D ((rgQ s.rg).take i.1))++[(valB D l).val]:=by unfold textsOf;rw[fm_take hl,if_pos h51];rfl
    have hle:=fm_le (f:=fun l=>if valK D l 2=true then some (valB D l).val else none) (rgQ s.rg) i.1
    replace hle:(textsOf D ((rgQ s.rg).take i.1)).length≤(rgQ s.rg).length:=hle
    refine Rg<|Lv (Fa 1 38)<|Lv (Ld (v:=ownV (textsOf D ((rgQ s.rg).take i.1)).length i.2))<|Lv Mv<|Le (Eff.buildSlice (rfl) [_] Tryz.underlying38 Tryz.sizeOf9 (by exact Tryz.zeroValue9) rfl rfl rfl rfl (by rfl)) fun b55 _=>Le (Eff.appendAny (txC (valB D l).val) (sz:=1) (bytes:=16) (z:= .string ⟨#[]⟩) (xs:=(textsOf D ((rgQ s.rg).take i.1)).flatMap txC) (m0:=(textsOf D ((rgQ s.rg).take i.1)).length) (o:=i.2) (m:=1) (pk:=[ownG 9 ((textsOf D ((rgQ s.rg).take i.1)).flatMap txC) (i.2)]) rfl rfl Tryz.underlying38 kr_ rfl om_ pk_ (by simp) hi2 (by rfl) (fun hm0=>⟨b55,0,rfl,fun w hw=>V.range_of_block (o:=0) (cs:=txC (valB D l).val) (r:=[]) (hw.own _ (show InS (b55,.cells (txC (valB D l).val).toArray 9 (0,0)) _ from in_).mem) rfl⟩) (by rfl) om_ om_) fun o2 ho2=>Lv (Fa 1 38)<|LeN (Eff.store (l':=[ownV (pairsOf D L).length po,ownV ((textsOf D ((rgQ s.rg).take i.1)).length+1) o2]) rfl rfl (V.ownV_one _ _) up_ (by rfl) (by rfl) Tryz.sizeOf38) fun _ _=>Nl<|Bn<|Ps<|Rg<|Lv Ar<|Lv Mv<|Nl ?_
    rw[← show(textsOf D ((rgQ s.rg).take (i.1+1))).flatMap txC=(textsOf D ((rgQ s.rg).take i.1)).flatMap txC++txC (valB D l).val by rw[hst2,List.flatMap_append];rfl]
    rw[← show(textsOf D ((rgQ s.rg).take (i.1+1))).length=(textsOf D ((rgQ s.rg).take i.1)).length+1 by rw[hst2,List.length_append];rfl]
    exact roundA ((i.1+1,o2)) ⟨by simp only;omega,by simp only;rw[hst2,List.flatMap_append,List.length_append];exact ho2⟩ (by simp only;omega)
   ·have h51:valK D l 2=false:=h51
    have hst2:textsOf D ((rgQ s.rg).take (i.1+1))=(textsOf D ((rgQ s.rg).take i.1)):=by unfold textsOf;rw[fm_take hl,if_neg (by rw[h51];decide)];simp
    refine pA_ 7 ?_
    rw[← hst2]
    exact roundA ((i.1+1,i.2)) ⟨by simp only;omega,by simp only;rw[hst2];exact hi2⟩ (by simp only;omega)
  ·obtain⟨i1,qo⟩:=i
   have hi9:i1=(rgQ s.rg).length:=by simp only at hi1 h42;omega
   subst hi9
   replace hi2:ownOk 1 (textsOf D (rgQ s.rg)).length ((textsOf D (rgQ s.rg)).flatMap txC) qo:=by have h8:=hi2;simp only[List.take_length] at h8;exact h8
   simp only[List.take_length]
   refine Xt<|Te<|Te<|Bh<|Ps<|Sq<|Rg<|Lv (Lw (l:=[ownV (pairsOf D L).length po,ownV (textsOf D (rgQ s.rg)).length qo]))<|LeN (StW (cs:=[ownV (pairsOf D L).length po,ownV (textsOf D (rgQ s.rg)).length qo]) (h1:=by simp[V.ownV_one])) fun _ _=>Nl<|Ps<|Rt<|PQ.retC (l:=[ownV (pairsOf D L).length po,ownV (textsOf D (rgQ s.rg)).length qo]) rfl rfl in_ Tryz.isAgg40 (by exact Tryz.sizeOf40) ?_
   exact fi_ (L,po,qo) ⟨⟨hLp.1,hLp.2.1⟩,hi0,hi2⟩
end
section
attribute [local irreducible] V.CW V.LW V.QW V.RW V.PQ V.Val V.Eff V.Qcall
open V (str byC ownV ownG ownS ownOk)
instance:Cal Tryz.prog 41:=⟨Tryz.call41⟩
instance:Cal Tryz.prog 42:=⟨Tryz.call42⟩
theorem samePairs_c (l:List (List UInt8×List UInt8))(hl:l.length≤100000)(p q:Option Addr)(c d:Nat)(w:World)(ha:V.slAt w p 2 prC l)(hb:V.slAt w q 2 prC l):Calls Tryz.prog 41 [.slice p l.length c,.slice q l.length d].toArray w fun e w'=>e= .returned (.bool true)∧Below w.heap.size w w':=by
 refine Cb_ Tryz.func41 rfl Tryz.ntmps41<|pA_ 13 ?_
 refine LW.re 10 (.bool false) rfl (by simp)<|pA_ 12 ?_
 refine loopA (γ:=Nat) (fun k=>[(0,.slice p l.length c),(1,.slice q l.length d),(5,.int .i64 (k:Nat))]) (fun _=>[]) (fun k=>k≤l.length) (fun k=>l.length-k) (0) (Nat.zero_le _) fun k hk1=>pA_ 9 ?_
 refine Cd_ rfl (fun h14=>?_) fun h14=>?_
 ·have hk9:k<l.length:=by omega
  obtain⟨bb1,o1,y,rfl,hb1,hy,hr1⟩:=V.slAt_at ha rfl (k:=k) hk9
  obtain⟨bb2,o2,y2,rfl,hb2,hy2,hr2⟩:=V.slAt_at hb rfl (k:=k) hk9
  obtain rfl:y=y2:=by rw[hy] at hy2;exact Option.some.inj hy2
  refine pA_ 5 ?_
  refine Qt<|pA_ 3 ?_
  refine Qv (Val.loadOA (cs:=prC y) rfl Tryz.isAgg112 hb1 (by simp[ids]) (hr1 k y hy) (by exact Tryz.sizeOf112))<|pA_ 3 ?_
  refine Qv (Val.loadOA (cs:=prC y) rfl Tryz.isAgg112 hb2 (by simp[ids]) (hr2 k y hy) (by exact Tryz.sizeOf112))<|Qv (Val.neA rfl rfl kr_ Tryz.underlying112 kr_ (by exact(.str rfl rfl Tryz.isAgg9 Tryz.underlying9 (.str rfl rfl Tryz.isAgg9 Tryz.underlying9 .nil))))<|QW.re 25 (.bool false) rfl (by simp)<|pA_ 11 ?_
  exact roundA (k+1) om_ om_
 ·refine pA_ 12 ?_
  exact fb_
theorem sameTexts_c (l:List (List UInt8))(hl:l.length≤100000)(p q:Option Addr)(c d:Nat)(w:World)(ha:V.slAt w p 1 txC l)(hb:V.slAt w q 1 txC l):Calls Tryz.prog 42 [.slice p l.length c,.slice q l.length d].toArray w fun e w'=>e= .returned (.bool true)∧Below w.heap.size w w':=by
 refine Cb_ Tryz.func42 rfl Tryz.ntmps42<|pA_ 13 ?_
 refine LW.re 10 (.bool false) rfl (by simp)<|pA_ 12 ?_
 refine loopA (γ:=Nat) (fun k=>[(0,.slice p l.length c),(1,.slice q l.length d),(5,.int .i64 (k:Nat))]) (fun _=>[]) (fun k=>k≤l.length) (fun k=>l.length-k) (0) (Nat.zero_le _) fun k hk1=>pA_ 9 ?_
 refine Cd_ rfl (fun h14=>?_) fun h14=>?_
 ·have hk9:k<l.length:=by omega
  obtain⟨bb1,o1,y,rfl,hb1,hy,hr1⟩:=V.slAt_at ha rfl (k:=k) hk9
  obtain⟨bb2,o2,y2,rfl,hb2,hy2,hr2⟩:=V.slAt_at hb rfl (k:=k) hk9
  obtain rfl:y=y2:=by rw[hy] at hy2;exact Option.some.inj hy2
  refine pA_ 5 ?_
  refine Qt<|pA_ 3 ?_
  refine Qv (Val.loadO rfl Tryz.isAgg9 hb1 (by simp[ids]) (hr1 k y hy 0 _ rfl))<|pA_ 3 ?_
  refine Qv (Val.loadO rfl Tryz.isAgg9 hb2 (by simp[ids]) (hr2 k y hy 0 _ rfl))<|Qv NS<|QW.re 25 (.bool false) rfl (by simp)<|pA_ 11 ?_
  exact roundA (k+1) om_ om_
 ·refine pA_ 12 ?_
  exact fb_
theorem sameShelf_c (P:List (List UInt8×List UInt8))(Q:List (List UInt8))(hP:P.length≤100000)(hQ:Q.length≤100000)(p q r s:Option Addr)(c d e f:Nat)(w:World)(ha:V.slAt w p 2 prC P)(hb:V.slAt w q 1 txC Q)(hc:V.slAt w r 2 prC P)(hd:V.slAt w s 1 txC Q):Calls Tryz.prog 16 [.agg #[.slice p P.length c,.slice q Q.length d],.agg #[.slice r P.length e,.slice s Q.length f]].toArray w fun e w'=>e= .returned (.bool true)∧Below w.heap.size w w':=by
 refine Cb_ Tryz.func16 rfl Tryz.ntmps16<|Sq<|Rg<|Le XA fun b2 _=>Le XA fun b3 _=>pA_ 6 ?_
 refine Lv (Ld (v:= .slice p P.length c))<|Lv (Fa 0 37)<|Lv (Ld (v:= .slice r P.length e))<|Le (CV fun w hw=>samePairs_c P hP p r c e w (hw.slAt ha (by simp[ids])) (hw.slAt hc (by simp[ids]))) fun _ _=>Lv Mv<|Lv (Fa 1 38)<|Lv (Ld (v:= .slice q Q.length d))<|Lv (Fa 1 38)<|Lv (Ld (v:= .slice s Q.length f))<|Le (CV fun w hw=>sameTexts_c Q hQ q s d f w (hw.slAt hb (by simp[ids])) (hw.slAt hd (by simp[ids]))) fun _ _=>pA_ 6 ?_
 exact fb_
theorem u64_nn (a:Int):0≤IntKind.u64.wrap a:=by
 have h:=Int.emod_nonneg a (show(18446744073709551616:Int)≠0 by decide)
 have e:IntKind.u64.wrap a=a%18446744073709551616:=by first|rfl|(simp[IntKind.wrap];done)|(unfold IntKind.wrap;rfl)
 rw[e];exact h
end
section
attribute [local irreducible] V.CW V.LW V.QW V.RW V.PQ V.Val V.Eff V.Qcall
open V (str byC ownV ownG ownS ownOk)
structure tInv (Tz:Tbl):Prop where
 len:Tz.length=8
 st:tStp Tz
 bk:∀i p,Tz[i]? =some p→∀e∈p.1,bkF e.2.key=i
 nd:((tLinks Tz).map (·.key)).Nodup
theorem tb0_inv:tInv tb0:=by
 refine⟨rfl,fun p hp=>?_,fun i p hp e he=>?_,?_⟩
 ·obtain rfl:=List.eq_of_mem_replicate hp
  exact V.Stp.nil _
 ·obtain rfl:=List.eq_of_mem_replicate (List.mem_of_getElem? hp)
  cases he
 ·decide
theorem lget_none {E:LE}{k:List UInt8}(h:lget E k=none):∀e∈E,e.2.key≠k:=by
 intro e he hk
 unfold lget at h
 rw[Option.map_eq_none_iff,List.find?_eq_none] at h
 exact h e he (by simpa using hk)
theorem tLinks_set {Tz:Tbl}{i:Nat}{p q:LE×Nat}{x:Lk}(hp:Tz[i]? =some p)(hq:q.1.map (·.2)=p.1.map (·.2)++[x]):(tLinks (Tz.set i q)).Perm (tLinks Tz++[x]):=by
 obtain⟨hi,hv⟩:=List.getElem?_eq_some_iff.1 hp
 have e1:Tz=Tz.take i++p::Tz.drop (i+1):=by
  have h8:=List.take_append_drop i Tz
  rw[List.drop_eq_getElem_cons hi,hv] at h8
  exact h8.symm
 have e2:Tz.set i q=Tz.take i++q::Tz.drop (i+1):=by
  rw[List.set_eq_take_append_cons_drop,if_pos hi]
 have e3:tLinks Tz=tLinks (Tz.take i)++(p.1.map (·.2)++tLinks (Tz.drop (i+1))):=by
  conv=>lhs;rw[e1]
  unfold tLinks
  rw[List.flatMap_append,List.flatMap_cons]
 have e4:tLinks (Tz.set i q)=tLinks (Tz.take i)++((p.1.map (·.2)++[x])++tLinks (Tz.drop (i+1))):=by
  rw[e2]
  unfold tLinks
  rw[List.flatMap_append,List.flatMap_cons,hq]
 rw[e3,e4,List.append_assoc,List.append_assoc,List.append_assoc]
 exact(List.perm_append_comm.append_left _).append_left _
theorem tSet_inv {Tz:Tbl}{x:Lk}(h:tInv Tz)(hg:(tGet Tz x.key).isSome=false):tInv (tSet Tz x)∧(tLinks (tSet Tz x)).Perm (tLinks Tz++[x]):=by
 have hb:=bkF_lt x.key
 obtain⟨p,hp⟩:∃p,Tz[bkF x.key]? =some p:=⟨Tz[bkF x.key]'(by rw[h.len];omega),by simp⟩
 have hl:lget p.1 x.key=none:=by
  unfold tGet at hg
  rw[hp] at hg
  simpa using hg
 have e:tSet Tz x=Tz.set (bkF x.key) (lput p.1 x p.2,lclk p.1 x.key p.2):=by unfold tSet;rw[hp]
 have e2:lput p.1 x p.2=p.1++[(p.2,x)]:=by unfold lput;rw[hl];rfl
 have hperm:(tLinks (tSet Tz x)).Perm (tLinks Tz++[x]):=by
  rw[e]
  exact tLinks_set hp (by rw[e2];simp)
 have hpi:=List.getElem?_eq_some_iff.1 hp
 refine⟨⟨?_,fun q hq=>?_,fun i q hq e' he=>?_,?_⟩,hperm⟩
 ·rw[tSet_len];exact h.len
 ·rw[e] at hq
  rcases List.mem_or_eq_of_mem_set hq with h8|h8
  ·exact h.st q h8
  ·rw[h8,← mput_me,← mclk_me]
   exact(h.st p (List.mem_of_getElem? hp)).put _ _
 ·rw[e,List.getElem?_set] at hq
  split at hq
  ·rename_i hi
   split at hq
   ·simp only[Option.some.injEq] at hq
    subst hq
    rw[e2] at he
    rcases List.mem_append.1 he with h8|h8
    ·rw[← hi];exact h.bk _ p hp e' h8
    ·rw[List.mem_singleton] at h8
     rw[h8];exact hi
   ·cases hq
  ·exact h.bk i q hq e' he
 ·have h9:((tLinks (tSet Tz x)).map (·.key)).Perm ((tLinks Tz).map (·.key)++[x.key]):=by
   have:=hperm.map (·.key)
   simpa using this
  rw[h9.nodup_iff,List.nodup_append]
  refine⟨h.nd,by simp,fun a ha b hb2=>?_⟩
  rw[List.mem_singleton] at hb2
  obtain⟨l,hlm,rfl⟩:=List.mem_map.1 ha
  unfold tLinks at hlm
  rw[List.mem_flatMap] at hlm
  obtain⟨q,hq,hlq⟩:=hlm
  obtain⟨e',he',rfl⟩:=List.mem_map.1 hlq
  obtain⟨j,hj⟩:=List.mem_iff_getElem?.1 hq
  intro hk
  rw[hb2] at hk
  have h10:=h.bk j q hj e' he'
  rw[hk] at h10
  subst h10
  rw[hp,Option.some.injEq] at hj
  subst hj
  exact lget_none hl e' he' hk
structure OvI (Fs:List Fnd)(c:OvC):Prop where
 ti:tInv c.Tz
 tl:∀l∈tLinks c.Tz,∃f∈Fs,l=lkOf f
 tn:(tLinks c.Tz).length≤Fs.length
 ql:∀l∈c.q,∃f∈Fs,l=lkOf f
 qn:c.q.length≤Fs.length
theorem ov1_inv {Fs:List Fnd}{c c':OvC}{f:Fnd}(h:OvI Fs c)(ho:ov1 c f=some c'):OvI (Fs++[f]) c':=by
 have hup:∀{P:Fnd→Prop},(∃g∈Fs,P g)→∃g∈Fs++[f],P g:=fun⟨g,hg,hp⟩=>⟨g,List.mem_append_left _ hg,hp⟩
 unfold ov1 at ho
 split at ho
 ·cases ho
 ·split at ho
  ·simp only[Option.some.injEq] at ho
   subst ho
   refine⟨h.ti,fun l hl=>hup (h.tl l hl),by simp only[List.length_append];have:=h.tn;omega,fun l hl=>?_,by simp only[List.length_append,List.length_singleton];have:=h.qn;omega⟩
   rcases List.mem_append.1 hl with h8|h8
   ·exact hup (h.ql l h8)
   ·rw[List.mem_singleton] at h8
    exact⟨f,by simp,h8⟩
  ·split at ho
   ·cases ho
   ·rename_i hg
    simp only[Option.some.injEq] at ho
    subst ho
    obtain⟨h1,h2⟩:=tSet_inv (x:=lkOf f) h.ti (by show(tGet c.Tz f.b.key).isSome=false;simpa using hg)
    refine⟨h1,fun l hl=>?_,?_,fun l hl=>hup (h.ql l hl),by simp only[List.length_append];have:=h.qn;omega⟩
    ·have h8:=h2.subset hl
     rcases List.mem_append.1 h8 with h9|h9
     ·exact hup (h.tl l h9)
     ·rw[List.mem_singleton] at h9
      exact⟨f,by simp,h9⟩
    ·have h8:=h2.length_eq
     have h9:=h.tn
     simp only[List.length_append,List.length_singleton] at h8⊢
     omega
theorem ovAll_inv:∀{Gs Fs:List Fnd} {c c':OvC},OvI Fs c→ovAll c Gs=some c'→OvI (Fs++Gs) c'
 |[],Fs,c,c',h,ho=>by
  simp only[ovAll,Option.some.injEq] at ho
  subst ho
  simpa using h
 |f::r,Fs,c,c',h,ho=>by
  unfold ovAll at ho
  split at ho
  ·cases ho
  ·rename_i c1 h1
   have h8:=ovAll_inv (ov1_inv h h1) ho
   simpa using h8
theorem ovC0_inv (n:Nat):OvI [] (ovC0 n):=by
 have e:tLinks tb0=[]:=rfl
 exact⟨tb0_inv,fun l hl=>(by have h8:l∈tLinks tb0:=hl;rw[e] at h8;cases h8),(by show(tLinks tb0).length≤0;rw[e];exact Nat.le_refl _),fun l hl=>(by cases hl),Nat.le_refl _⟩
theorem sta_mem {a b:List Lk}(h:Stb.Sta Lk.ver a b){x:Lk}(hx:x∈b):x∈a:=by
 have h8:x∈b.filter fun y=>Lk.ver y==Lk.ver x:=List.mem_filter.2 ⟨hx,by simp⟩
 rw[h.2] at h8
 exact(List.mem_filter.1 h8).1
theorem ova_sh {th n:Nat}{e0:Int}{Fs:List Fnd}{y:ArR×ArS}(h:OvA th n e0 Fs y):ArOk th n y.1 y.2∧tStp y.2.Tz∧((tLinks y.2.Tz).map (·.key)).Nodup∧(tLinks y.2.Tz).length≤Fs.length∧(rgQ y.2.rg).length≤Fs.length∧(∀l∈tLinks y.2.Tz,∃f∈Fs,l=lkOf f)∧∀l∈rgQ y.2.rg,∃f∈Fs,l=lkOf f:=by
 obtain⟨c,hc,Lz,rg,ro,hs,_,hsta,_,hok⟩:=h.get y.1 y.2 rfl
 have hi:=ovAll_inv (ovC0_inv n) hc
 rw[List.nil_append] at hi
 have e1:y.2.Tz=c.Tz:=by rw[hs];rfl
 have e2:y.2.rg=rg:=by rw[hs];rfl
 rw[e1,e2]
 refine⟨hok,hi.ti.st,hi.ti.nd,hi.tn,?_,hi.tl,fun l hl=>hi.ql l (sta_mem hsta hl)⟩
 rw[hsta.1];exact hi.qn
theorem key_inj:∀{M:List Lk},(M.map (·.key)).Nodup→∀{a b:Lk},a∈M→b∈M→a.key=b.key→a=b
 |[],_,a,b,ha,_,_=>by cases ha
 |x::M,h,a,b,ha,hb,e=>by
  rw[List.map_cons,List.nodup_cons] at h
  rcases List.mem_cons.1 ha with ha'|ha'
  ·rcases List.mem_cons.1 hb with hb'|hb'
   ·rw[ha',hb']
   ·exact absurd (List.mem_map_of_mem (f:=(·.key)) hb') (by rw[← ha',e] at h;exact h.1)
  ·rcases List.mem_cons.1 hb with hb'|hb'
   ·exact absurd (List.mem_map_of_mem (f:=(·.key)) ha') (by rw[← hb',← e] at h;exact h.1)
   ·exact key_inj h.2 ha' hb' e
theorem upL_uniq:∀{A B M:List Lk},A.Perm B→UpL A→UpL B→(∀a∈A,a∈M)→(M.map (·.key)).Nodup→A=B
 |[],B,M,hp,_,_,_,_=>(List.nil_perm.1 hp).symm
 |a::A,[],M,hp,_,_,_,_=>by have:=hp.length_eq;simp at this
 |a::A,b::B,M,hp,ha,hb,hM,hn=>by
  have hbA:b∈a::A:=hp.symm.subset List.mem_cons_self
  have haB:a∈b::B:=hp.subset List.mem_cons_self
  have h1:¬b.key<a.key:=by
   rcases List.mem_cons.1 hbA with rfl|h8
   ·exact List.lt_irrefl _
   ·exact(List.pairwise_cons.1 ha).1 b h8
  have h2:¬a.key<b.key:=by
   rcases List.mem_cons.1 haB with rfl|h8
   ·exact List.lt_irrefl _
   ·exact(List.pairwise_cons.1 hb).1 a h8
  have he:a=b:=key_inj hn (hM a List.mem_cons_self) (hM b hbA) (List.le_antisymm (List.not_lt.1 h1) (List.not_lt.1 h2))
  subst he
  rw[upL_uniq ((List.perm_cons a).1 hp) (List.pairwise_cons.1 ha).2 (List.pairwise_cons.1 hb).2 (fun x hx=>hM x (List.mem_cons_of_mem _ hx)) hn]
theorem fm_congr {α β:Type}{f g:α→Option β}:∀{l:List α},(∀x∈l,f x=g x)→l.filterMap f=l.filterMap g
 |[],_=>rfl
 |a::l,h=>by
  rw[List.filterMap_cons,List.filterMap_cons,h a List.mem_cons_self,fm_congr fun x hx=>h x (List.mem_cons_of_mem _ hx)]
theorem end_same {v:Dev}(hc:Calm v.D)(hL:0<v.D.length∧v.D.length≤1000){k:Nat}(h6:(runN v cor0 k).2.ph=6):Same v.D (runN v cor0 k).1.D∧∀f∈(runN v cor0 k).2.kp,f.good=true∧decF (linesL (runN v cor0 k).1.D f.line (spanF f.b.cls))=some f.b∧2≤f.line∧f.line<v.D.length:=by
 obtain⟨hI,hC⟩:=runN_inv hL k
 have hcal:Calm (runN v cor0 k).1.D:=by
  rw[hC.p5 om_ om_]
  have hfd:=hC.f2 om_ om_
  have hin:=fds_in v.D (slabsF v.D.length*8)
  rw[← hfd] at hin
  exact wiped_calm (wiped_calm hc fun f hf=>(hin f (List.mem_filter.1 hf).1).1) fun f hf=>(hin f (List.mem_filter.1 hf).1).1
 have hs:=cut_same hc hL k []
 rw[cut_calm hcal] at hs
 refine⟨hs,fun f hf=>?_⟩
 have hkp:=(run_end hL (k:=k) om_).2 h6
 rw[hkp.2.1] at hf
 have hf2:f∈kpA (runN v cor0 k).1.D:=by rw[hs.kp];exact hf
 obtain⟨h1,h2⟩:=kp_dec hf2
 have h3:f∈fdA v.D:=(List.mem_filter.1 hf).1
 exact⟨h1,h2,fds_two h3,(fds_in _ _ f h3).2.2⟩
end
section
attribute [local irreducible] V.CW V.LW V.QW V.RW V.PQ V.Val V.Eff V.Qcall
open V (str byC ownV ownG ownS ownOk)
theorem ex_P (D:List Ce)(T:List Lk)(hn:(T.map (·.key)).Nodup):∃P,P.length≤T.length∧∀L:List Lk,L.Perm T→UpL L→pairsOf D L=P:=by
 by_cases h:∃L:List Lk,L.Perm T∧UpL L
 ·obtain⟨L0,h1,h2⟩:=h
  refine⟨pairsOf D L0,?_,fun L h3 h4=>?_⟩
  ·have:=fm_le (f:=fun l=>if valK D l 1=true then some (l.key,(valB D l).val) else none) L0 L0.length
   rw[List.take_length] at this
   have h8:=h1.length_eq
   unfold pairsOf;omega
  ·rw[upL_uniq (h3.trans h1.symm) h4 h2 (fun a ha=>h3.subset ha) hn]
 ·exact⟨[],Nat.zero_le _,fun L h1 h2=>absurd ⟨L,h1,h2⟩ h⟩
structure ShP (D:List Ce)(z:ArR×ArS)(P:List (List UInt8×List UInt8))(Q:List (List UInt8)):Prop where
 ok:ArOk 2 D.length z.1 z.2
 stp:tStp z.2.Tz
 tn:(tLinks z.2.Tz).length≤1000
 qn:(rgQ z.2.rg).length≤1000
 ln:(∀l∈tLinks z.2.Tz,-1000000≤l.line∧l.line≤1000000)∧∀l∈rgQ z.2.rg,-1000000≤l.line∧l.line≤1000000
 pP:∀L:List Lk,L.Perm (tLinks z.2.Tz)→UpL L→pairsOf D L=P
 pQ:textsOf D (rgQ z.2.rg)=Q
 pn:P.length≤1000
 qm:Q.length≤1000
def lowF (a m:Int):Nat:=((IntKind.u64.wrap a).tmod m).toNat
theorem low_lt {a m:Int}(hm:0<m):(lowF a m:Int)<m:=by
 have h1:0≤(IntKind.u64.wrap a).tmod m:=Int.tmod_nonneg m (u64_nn a)
 have h2:(IntKind.u64.wrap a).tmod m<m:=Int.tmod_lt_of_pos _ hm
 unfold lowF;omega
theorem lowF_g (a m:Int)(hm:0<m∧m≤1000):Rz Tryz.prog 12 [.int .i64 a,.int .i64 m] (.int .i64 (lowF a m:Nat)):=by
 intro w
 have hm1:IntKind.u64.wrap m=m:=IntWalk.u64_in _ om_
 have h0:=u64_nn a
 have h1:0≤(IntKind.u64.wrap a).tmod m:=Int.tmod_nonneg m h0
 have h2:(IntKind.u64.wrap a).tmod m<m:=Int.tmod_lt_of_pos _ hm.1
 have h3:IntKind.i64.wrap ((IntKind.u64.wrap a).tmod m)=((lowF a m:Nat):Int):=by unfold lowF;rw[IntWalk.i64_in _ om_];omega
 rw[← h3]
 refine Cb_ Tryz.func12 rfl Tryz.ntmps12<|pA_ 11 ?_
 refine LW.re 8 (.int .u64 m) rfl (by rw[hm1])<|Lv (Val.rem rfl rfl om_)<|pA_ 6 ?_
 exact fb_
theorem ashelf_e (z:ArR×ArS)(xd:DvR)(v:Dev)(P:List (List UInt8×List UInt8))(Q:List (List UInt8))(h:ShP v.D z P Q)(w:World)(hs:Sat (arS z.1 z.2 xd.db++vS xd v) w):Calls Tryz.prog 11 [.pointer (some ⟨z.1.a,0,none⟩)].toArray w fun e w'=>∃y:V.OwnO×V.OwnO,(ownOk 2 P.length (P.flatMap prC) y.1∧ownOk 1 Q.length (Q.flatMap txC) y.2)∧e= .returned (.agg #[ownV P.length y.1,ownV Q.length y.2])∧Hp ⟨w,V.ids ((arS z.1 z.2 xd.db++vS xd v))⟩ (ownG 112 (P.flatMap prC) y.1::ownG 9 (Q.flatMap txC) y.2::arS z.1 z.2 xd.db++vS xd v) w':=by
 refine(ashelf_g z.1 z.2 xd v.D v.k 2 h.ok h.stp h.tn h.qn h.ln w hs).mono fun e w' ⟨y,⟨⟨h1,h2⟩,h3,h4⟩,he,hw⟩=>?_
 rw[h.pP y.1 h1 h2] at h3 he hw
 rw[h.pQ] at h4 he hw
 exact⟨y.2,⟨h3,h4⟩,he,hw⟩
theorem sl_up {α:Type}{w0:World}{F:List Nat}{sg:V.Sg}{w:World}{p:Option Addr}{sz:Nat}{enc:α→List Value}{l:List α}(hw:Hp ⟨w0,F⟩ sg w)(h:V.slAt w0 p sz enc l)(hf:0<l.length→∀b o,p=some ⟨b,o,none⟩→b∉F):V.slAt w p sz enc l:=by
 by_cases h0:0<l.length
 ·exact hw.slAt h (hf h0)
 ·exact .inl (List.length_eq_zero_iff.1 om_)
theorem sl_in {α:Type}{w:World}{p:Option Addr}{sz:Nat}{enc:α→List Value}{l:List α}(h:V.slAt w p sz enc l)(h0:0<l.length){b o:Nat}(hb:p=some ⟨b,o,none⟩):b<w.heap.size:=by
 rcases h with h|⟨b2,o2,h2,h3,_⟩
 ·rw[h] at h0;exact absurd h0 (by simp)
 ·rw[hb] at h2
  simp only[Option.some.injEq,Addr.mk.injEq] at h2
  rw[h2.1];exact h3
theorem cut_gc (x:DvR)(D:List Ce)(k:Cnt)(keep:List Int)(p:Option Addr)(cp:Nat)(hD:D.length≤100000)(hkl:keep.length≤100000)(w:World)(hs:Sat (dvS x D k) w)(hk:V.slAt w p 1 inI keep)(hkd:0<keep.length→∀b o,p=some ⟨b,o,none⟩→b∉V.ids (dvS x D k)):Calls Tryz.prog 13 [.pointer (some ⟨x.db,0,none⟩),.slice p keep.length cp].toArray w fun e w'=>∃o:V.OwnO,ownOk 1 (lostTo D keep D.length).length ((lostTo D keep D.length).flatMap inI) o∧e= .returned (.tuple #[ownV (lostTo D keep D.length).length o,.int .i64 0])∧Hp ⟨w,V.ids ((dvS x D k))⟩ (ownG 3 ((lostTo D keep D.length).flatMap inI) o::dvS x (cutD D keep) {k with e:=IntKind.i64.wrap (k.e+1)}) w':=by
 refine Cs_ (dvS x D k) Tryz.func13 rfl Tryz.ntmps13 hs<|pA_ 27 ?_
 refine Lv (Ld (v:= .slice (some ⟨x.cb,0,none⟩) D.length x.cap))<|pA_ 5 ?_
 refine V.CW.perm (sg':=[ownG 3 ((lostTo D keep 0).flatMap inI) none,[(x.db,.cells (dxC x D k).toArray 121 (0,0))],[(x.cb,.cells (cxC x (mixTo (cutD D keep) D 0)).toArray 126 (0,0))]]) ?_ (by unfold mixTo lostTo;simp[V.ownG,V.ownS])
 refine loopA (γ:=Nat×V.OwnO) (fun j=>[(0,.pointer (some ⟨x.db,0,none⟩)),(1,.slice p keep.length cp),(15,.int .i64 (D.length:Nat)),(6,ownV (lostTo D keep j.1).length j.2),(16,.int .i64 (j.1:Nat))]) (fun j=>[ownG 3 ((lostTo D keep j.1).flatMap inI) j.2,[(x.db,.cells (dxC x D k).toArray 121 (0,0))],[(x.cb,.cells (cxC x (mixTo (cutD D keep) D j.1)).toArray 126 (0,0))]]) (fun j=>j.1≤D.length∧ownOk 1 (lostTo D keep j.1).length ((lostTo D keep j.1).flatMap inI) j.2) (fun j=>D.length-j.1) ((0,none)) ⟨Nat.zero_le _,⟨rfl,rfl⟩⟩ fun j=>?_
 rintro⟨hj1,hj2⟩
 refine pA_ 6 ?_
 refine Cd_ rfl (fun h17=>?_) fun h17=>?_
 ·have hi:j.1<D.length:=by omega
  have hmul:=Nat.mul_le_mul_right 193 (show j.1+1≤D.length from hi)
  have hml:=cutD_len D keep
  have hmx:=mix_len hml j.1
  have hll:=lostTo_len D keep j.1
  obtain⟨c,hc⟩:∃c,D[j.1]? =some c:=⟨_,List.getElem?_eq_getElem hi⟩
  have hst:=lostTo_succ (keep:=keep) hc
  refine pA_ 15 ?_
  refine Lv (Ld (v:= .slice (some ⟨x.cb,0,none⟩) D.length x.cap))<|Lv Mv<|Lv (Val.indexAddrN rfl rfl Tryz.underlying115 Tryz.sizeOf126 hi)<|LW.re 24 (.pointer (some ⟨x.cb,j.1*193,none⟩)) rfl (by simp)<|pA_ 8 ?_
  refine Lv (La (ceC c) (r:=(cx_all (x:=x) (mix_at hml hc)).choose) (hl:=by simpa using(cx_all (x:=x) (mix_at hml hc)).choose_spec) (hs:=by rw[ceC_len];exact Tryz.sizeOf126))<|Le (Cz_ (loose_g c)) fun _ _=>Nl<|Ps ?_
  refine Cd_ rfl (fun h28=>?_) fun h28=>?_
  ·have h28:looseB c=true:=h28
   refine pA_ 4 ?_
   refine Le (CV fun w hw=>contains_g keep p cp ((j.1:Nat):Int) hkl w (sl_up hw hk hkd)) fun _ _=>Nl<|Ps ?_
   refine Cd_ rfl (fun h31=>?_) fun h31=>?_
   ·have h31:((j.1:Nat):Int)∈keep:=by simpa using h31
    rw[if_neg (by simp[h31]),List.append_nil] at hst
    have hc3:((mixTo (cutD D keep) D j.1).set j.1 (Ce.mk c.now c.now c.way c.sent))[j.1]? =some (Ce.mk c.now c.now c.way c.sent):=List.getElem?_set_self (by rw[hmx];omega)
    refine pA_ 5 ?_
    refine Lv (La (byC c.now.1) (r:=(cx_now (x:=x) (mix_at hml hc)).choose) (hl:=by simpa using(cx_now (x:=x) (mix_at hml hc)).choose_spec) (hs:=by rw[byC64];exact Tryz.sizeOf124))<|Lv Nz<|Lv (Fa 64 124)<|LeN (Eff.storeA (cs:=byC c.now.1) (l:=cxC x (mixTo (cutD D keep) D j.1)) (l':=cxC x ((mixTo (cutD D keep) D j.1).set j.1 (Ce.mk c.now c.now c.way c.sent))) rfl rfl up_ (by have h8:=cx_in (x:=x) (mix_at hml hc) 64 (byC c.now.1) (c':=(Ce.mk c.now c.now c.way c.sent)) (ce_kept c c.now) (by simp[byC64]);simpa using h8) (by rw[cx_len];simp[byC64,hmx];omega) (by rw[byC64];exact Tryz.sizeOf124) (V.byC_one _)) fun _ _=>pA_ 8 ?_
    refine Lv (La (byC (Ce.mk c.now c.now c.way c.sent).kept.1) (r:=(cx_kept (x:=x) hc3).choose) (hl:=(cx_kept (x:=x) hc3).choose_spec) (hs:=by rw[byC64];exact Tryz.sizeOf124))<|Lv Nz<|Lv (Fa 0 124)<|LeN (Eff.storeA (cs:=byC (Ce.mk c.now c.now c.way c.sent).kept.1) (l:=cxC x ((mixTo (cutD D keep) D j.1).set j.1 (Ce.mk c.now c.now c.way c.sent))) (l':=cxC x ((mixTo (cutD D keep) D j.1).set j.1 (Ce.mk (Ce.mk c.now c.now c.way c.sent).kept (Ce.mk c.now c.now c.way c.sent).kept (Ce.mk c.now c.now c.way c.sent).way (Ce.mk c.now c.now c.way c.sent).sent))) rfl rfl up_ (by have h8:=cx_in (x:=x) hc3 0 (byC (Ce.mk c.now c.now c.way c.sent).kept.1) (c':=(Ce.mk (Ce.mk c.now c.now c.way c.sent).kept (Ce.mk c.now c.now c.way c.sent).kept (Ce.mk c.now c.now c.way c.sent).way (Ce.mk c.now c.now c.way c.sent).sent)) (ce_now (Ce.mk c.now c.now c.way c.sent) (Ce.mk c.now c.now c.way c.sent).kept) (by simp[byC64]);rw[List.set_set] at h8;simpa using h8) (by rw[cx_len];simp[byC64,hmx];omega) (by rw[byC64];exact Tryz.sizeOf124) (V.byC_one _)) ?_
    intro _ _
    refine Lv Nz<|Lv (Fa 192 4) ?_
    refine LW.eN rfl (Eff.storeX (v:= .bool false) (l:=cxC x ((mixTo (cutD D keep) D j.1).set j.1 (Ce.mk (Ce.mk c.now c.now c.way c.sent).kept (Ce.mk c.now c.now c.way c.sent).kept (Ce.mk c.now c.now c.way c.sent).way (Ce.mk c.now c.now c.way c.sent).sent))) (l':=cxC x ((mixTo (cutD D keep) D j.1).set j.1 (Ce.mk (Ce.mk c.now c.now c.way c.sent).kept (Ce.mk c.now c.now c.way c.sent).kept (Ce.mk c.now c.now c.way c.sent).way false))) rfl rfl rfl up_ (by have h8:=cx_in (x:=x) (c:=(Ce.mk (Ce.mk c.now c.now c.way c.sent).kept (Ce.mk c.now c.now c.way c.sent).kept (Ce.mk c.now c.now c.way c.sent).way (Ce.mk c.now c.now c.way c.sent).sent)) (c':=(Ce.mk (Ce.mk c.now c.now c.way c.sent).kept (Ce.mk c.now c.now c.way c.sent).kept (Ce.mk c.now c.now c.way c.sent).way false)) (List.getElem?_set_self (by rw[hmx];omega)) 192 [.bool false] (ce_sent (Ce.mk (Ce.mk c.now c.now c.way c.sent).kept (Ce.mk c.now c.now c.way c.sent).kept (Ce.mk c.now c.now c.way c.sent).way (Ce.mk c.now c.now c.way c.sent).sent) false) (by simp);rw[List.set_set] at h8;simpa[V.splice] using h8) (by rw[cx_len];simp[hmx];omega) Tryz.sizeOf4) ?_
    intro _ _
    refine pA_ 7 ?_
    have e8:(Ce.mk (Ce.mk c.now c.now c.way c.sent).kept (Ce.mk c.now c.now c.way c.sent).kept (Ce.mk c.now c.now c.way c.sent).way false)=cutC keep j.1 c:=by
     unfold cutC;simp[h31]
    rw[e8,mix_step hml hc (cutD_at hc)]
    rw[← hst]
    refine PQ.round ((j.1+1,j.2)) ⟨by simp only;omega,by simp only;rw[hst];exact hj2⟩ (by simp only;omega) (by exact⟨rfl,rfl,rfl,by rw[hst];rfl,rfl,trivial⟩) pk_
   ·have h31:¬((j.1:Nat):Int)∈keep:=by simpa using h31
    rw[if_pos (by simp[h28,h31])] at hst
    refine Rg<|Lv Mv<|Lv Mv<|Le (Eff.buildSlice (rfl) [_] Tryz.underlying23 Tryz.sizeOf3 (by exact Tryz.zeroValue3) rfl rfl rfl rfl (by rfl)) fun b41 _=>Le (Eff.appendAny (inI ((j.1:Nat):Int)) (sz:=1) (bytes:=8) (z:= .int .i64 0) (xs:=(lostTo D keep j.1).flatMap inI) (m0:=(lostTo D keep j.1).length) (o:=j.2) (m:=1) (pk:=[ownG 3 ((lostTo D keep j.1).flatMap inI) (j.2)]) rfl rfl Tryz.underlying23 kr_ rfl om_ pk_ (by simp) hj2 (by rfl) (fun hm0=>⟨b41,0,rfl,fun w hw=>V.range_of_block (o:=0) (cs:=inI ((j.1:Nat):Int)) (r:=[]) (hw.own _ (show InS (b41,.cells (inI ((j.1:Nat):Int)).toArray 3 (0,0)) _ from in_).mem) rfl⟩) (by rfl) om_ om_) fun o2 ho2=>Lv Av<|Nl<|Ps<|Rg<|Lv Mv<|Lv Mv<|Lv Mv<|Lv Nz<|Lv (Fa 64 124)<|Lv (La (byC c.kept.1) (r:=(cx_kept (x:=x) (mix_at hml hc)).choose) (hl:=(cx_kept (x:=x) (mix_at hml hc)).choose_spec) (hs:=by rw[byC64];exact Tryz.sizeOf124))<|Lv Nz<|Lv (Fa 0 124)<|LeN (Eff.storeA (cs:=byC c.kept.1) (l:=cxC x (mixTo (cutD D keep) D j.1)) (l':=cxC x ((mixTo (cutD D keep) D j.1).set j.1 (Ce.mk c.kept c.kept c.way c.sent))) rfl rfl up_ (by have h8:=cx_in (x:=x) (mix_at hml hc) 0 (byC c.kept.1) (c':=(Ce.mk c.kept c.kept c.way c.sent)) (ce_now c c.kept) (by simp[byC64]);simpa using h8) (by rw[cx_len];simp[byC64,hmx];omega) (by rw[byC64];exact Tryz.sizeOf124) (V.byC_one _)) fun _ _=>Lv Nz<|Lv (Fa 192 4) ?_
    refine LW.eN rfl (Eff.storeX (v:= .bool false) (l:=cxC x ((mixTo (cutD D keep) D j.1).set j.1 (Ce.mk c.kept c.kept c.way c.sent))) (l':=cxC x ((mixTo (cutD D keep) D j.1).set j.1 (Ce.mk c.kept c.kept c.way false))) rfl rfl rfl up_ (by have h8:=cx_in (x:=x) (c:=(Ce.mk c.kept c.kept c.way c.sent)) (c':=(Ce.mk c.kept c.kept c.way false)) (List.getElem?_set_self (by rw[hmx];omega)) 192 [.bool false] (ce_sent (Ce.mk c.kept c.kept c.way c.sent) false) (by simp);rw[List.set_set] at h8;simpa[V.splice] using h8) (by rw[cx_len];simp[hmx];omega) Tryz.sizeOf4) ?_
    intro _ _
    refine pA_ 7 ?_
    have e8:(Ce.mk c.kept c.kept c.way false)=cutC keep j.1 c:=by
     unfold cutC;simp[h31]
    rw[e8,mix_step hml hc (cutD_at hc)]
    rw[← show(lostTo D keep (j.1+1)).flatMap inI=(lostTo D keep j.1).flatMap inI++inI ((j.1:Nat):Int) by rw[hst,List.flatMap_append];rfl]
    refine PQ.round ((j.1+1,o2)) ⟨by simp only;omega,by simp only;rw[hst,List.flatMap_append,List.length_append];exact ho2⟩ (by simp only;omega) (by exact⟨rfl,rfl,rfl,by rw[hst,List.length_append];rfl,rfl,trivial⟩) pk_
  ·have h28:looseB c=false:=h28
   rw[if_neg (by simp[h28]),List.append_nil] at hst
   refine pA_ 8 ?_
   refine Lv (La (byC c.kept.1) (r:=(cx_kept (x:=x) (mix_at hml hc)).choose) (hl:=(cx_kept (x:=x) (mix_at hml hc)).choose_spec) (hs:=by rw[byC64];exact Tryz.sizeOf124))<|Lv Nz<|Lv (Fa 0 124)<|LeN (Eff.storeA (cs:=byC c.kept.1) (l:=cxC x (mixTo (cutD D keep) D j.1)) (l':=cxC x ((mixTo (cutD D keep) D j.1).set j.1 (Ce.mk c.kept c.kept c.way c.sent))) rfl rfl up_ (by have h8:=cx_in (x:=x) (mix_at hml hc) 0 (byC c.kept.1) (c':=(Ce.mk c.kept c.kept c.way c.sent)) (ce_now c c.kept) (by simp[byC64]);simpa using h8) (by rw[cx_len];simp[byC64,hmx];omega) (by rw[byC64];exact Tryz.sizeOf124) (V.byC_one _)) fun _ _=>Lv Nz<|Lv (Fa 192 4) ?_
   refine LW.eN rfl (Eff.storeX (v:= .bool false) (l:=cxC x ((mixTo (cutD D keep) D j.1).set j.1 (Ce.mk c.kept c.kept c.way c.sent))) (l':=cxC x ((mixTo (cutD D keep) D j.1).set j.1 (Ce.mk c.kept c.kept c.way false))) rfl rfl rfl up_ (by have h8:=cx_in (x:=x) (c:=(Ce.mk c.kept c.kept c.way c.sent)) (c':=(Ce.mk c.kept c.kept c.way false)) (List.getElem?_set_self (by rw[hmx];omega)) 192 [.bool false] (ce_sent (Ce.mk c.kept c.kept c.way c.sent) false) (by simp);rw[List.set_set] at h8;simpa[V.splice] using h8) (by rw[cx_len];simp[hmx];omega) Tryz.sizeOf4) ?_
   intro _ _
   refine pA_ 7 ?_
   have e8:(Ce.mk c.kept c.kept c.way false)=cutC keep j.1 c:=by
    have e7:c.now=c.kept:=by simpa[looseB] using h28
    unfold cutC;simp[e7]
   rw[e8,mix_step hml hc (cutD_at hc)]
   rw[← hst]
   refine PQ.round ((j.1+1,j.2)) ⟨by simp only;omega,by simp only;rw[hst];exact hj2⟩ (by simp only;omega) (by exact⟨rfl,rfl,rfl,by rw[hst];rfl,rfl,trivial⟩) pk_
 ·have hj9:j.1=D.length:=by omega
  have hend:(mixTo (cutD D keep) D j.1)=cutD D keep:=by unfold mixTo;rw[hj9,List.take_of_length_le (by rw[cutD_len];omega),List.drop_eq_nil_iff.2 om_,List.append_nil]
  rw[hend]
  refine pA_ 11 ?_
  refine Le (CM ([[(x.db,.cells (dxC x D k).toArray 121 (0,0))]]) fun w hw hs=>addI_c x.db 5 (dxC x D k) 121 k.e 1 w rfl hs) fun _ _=>pA_ 11 ?_
  obtain⟨j1,jo⟩:=j
  simp only at hj9 hj1 hj2
  subst hj9
  intro w' hw
  exact⟨jo,hj2,rfl,by unfold dvS dxC;rw[cutD_len];exact hw.pick pk_⟩
theorem cut_v (x:DvR)(v:Dev)(keep:List Int)(p:Option Addr)(cp:Nat)(hD:v.D.length≤100000)(hkl:keep.length≤100000)(w:World)(hs:Sat (vS x v) w)(hk:V.slAt w p 1 inI keep)(hkd:0<keep.length→∀b o,p=some ⟨b,o,none⟩→b∉V.ids (vS x v)):Calls Tryz.prog 13 [.pointer (some ⟨x.db,0,none⟩),.slice p keep.length cp].toArray w fun e w'=>∃o:V.OwnO,ownOk 1 (lostTo v.D keep v.D.length).length ((lostTo v.D keep v.D.length).flatMap inI) o∧e= .returned (.tuple #[ownV (lostTo v.D keep v.D.length).length o,.int .i64 0])∧Hp ⟨w,V.ids ((vS x v))⟩ (ownG 3 ((lostTo v.D keep v.D.length).flatMap inI) o::vS x (v.cut keep)) w':=
 cut_gc x v.D v.k keep p cp hD hkl w hs hk hkd
end
section
attribute [local irreducible] V.CW V.LW V.QW V.RW V.PQ V.Val V.Eff V.Qcall
open V (str byC ownV ownG ownS ownOk)
end
section
attribute [local irreducible] V.CW V.LW V.QW V.RW V.PQ V.Val V.Eff V.Qcall
open V (str byC ownV ownG ownS ownOk)
end
end G
end Go.Proofs.YtjidffamcdcecaaGreat
namespace Go.Proofs.YtjidffamcdcecaaGreat
open Go Go.RowKit V
set_option linter.unusedVariables false
set_option maxRecDepth 100000
set_option maxHeartbeats 2000000
namespace G
section
attribute [local irreducible] V.CW V.LW V.QW V.RW V.PQ V.Val V.Eff V.Qcall
open V (str byC ownV ownG ownS ownOk)
instance:Und Tryz.prog 162 (dOf Tryz.underlying162):=⟨Tryz.underlying162⟩
instance:Cal Tryz.prog 30:=⟨Tryz.call30⟩
instance:Cal Tryz.prog 240:=⟨Tryz.call240⟩
instance:Cal Tryz.prog 241:=⟨Tryz.call241⟩
instance:Cal Tryz.prog 260:=⟨Tryz.call260⟩
theorem x_swapU {a:Addr}{x y:Int}{w:World}(hc:w.cell? a=some (.int .u64 x))(hz:w.frozen? a=false):(callFunc 275 #[.pointer (some a),.int .u64 y]).run Tryz.prog w= .ok (.value (.int .u64 x)) (w.setCell a (.int .u64 y)):=V.run_call_swap Tryz.func275 kr_ kr_ kr_ .u64 kr_ hc hz
theorem x_addU {a:Addr}{x y:Int}{w:World}(hc:w.cell? a=some (.int .u64 x))(hz:w.frozen? a=false):(callFunc 271 #[.pointer (some a),.int .u64 y]).run Tryz.prog w= .ok (.value (.int .u64 (IntKind.u64.wrap (x+y)))) (w.setCell a (.int .u64 (IntKind.u64.wrap (x+y)))):=run_call_add Tryz.func271 kr_ kr_ kr_ .u64 kr_ hc hz rfl
theorem x_hitU {a:Addr}{x y:Int}{w:World}(hc:w.cell? a=some (.int .u64 x))(hz:w.frozen? a=false):(callFunc 64 #[.pointer (some a),.int .u64 x,.int .u64 y]).run Tryz.prog w= .ok (.value (.bool true)) (w.setCell a (.int .u64 y)):=run_call_cas_hit Tryz.func64 kr_ kr_ kr_ .u64 kr_ hc hz
theorem x_missU {a:Addr}{x y o:Int}{w:World}(hc:w.cell? a=some (.int .u64 x))(hz:w.frozen? a=false)(hne:¬x=o):(callFunc 64 #[.pointer (some a),.int .u64 o,.int .u64 y]).run Tryz.prog w= .ok (.value (.bool false)) w:=run_call_cas_miss Tryz.func64 kr_ kr_ kr_ .u64 kr_ hc hz hne
theorem uSwap_c (b o:Nat)(l:List Value)(T:TypeId)(x:Int)(hl:l[o]? =some (.int .u64 x))(y:Int):Mo Tryz.prog 260 [.pointer (some ⟨b,o,none⟩),.int .u64 y] [[(b,.cells l.toArray T (0,0))]] (fun _u:Unit=>True) (fun _=> .int .u64 x) (fun _=>[[(b,.cells (l.set o (.int .u64 y)).toArray T (0,0))]]):=by
 intro w hs
 refine Ca_ Tryz.func260 rfl Tryz.ntmps260 hs<|pA_ 10 ?_
 refine LW.re 7 (.pointer (some ⟨b,o,none⟩)) rfl rfl<|Lv Mv<|Le (Eff.ext (l':=l.set o (.int .u64 y)) rfl .here rfl (fun w hb=>x_swapU (V.cell_of_block hb (by exact hl)) (V.frozen_of hb))) fun _ _=>pA_ 5 ?_
 intro w' hw;exact⟨(),trivial,rfl,hw⟩
theorem uAdd_c (b o:Nat)(l:List Value)(T:TypeId)(x:Int)(hl:l[o]? =some (.int .u64 x))(y:Int):Mo Tryz.prog 254 [.pointer (some ⟨b,o,none⟩),.int .u64 y] [[(b,.cells l.toArray T (0,0))]] (fun _u:Unit=>True) (fun _=> .int .u64 (IntKind.u64.wrap (x+y))) (fun _=>[[(b,.cells (l.set o (.int .u64 (IntKind.u64.wrap (x+y)))).toArray T (0,0))]]):=by
 intro w hs
 refine Ca_ Tryz.func254 rfl Tryz.ntmps254 hs<|pA_ 10 ?_
 refine LW.re 7 (.pointer (some ⟨b,o,none⟩)) rfl rfl<|Lv Mv<|Le (Eff.ext (l':=l.set o (.int .u64 (IntKind.u64.wrap (x+y)))) rfl .here rfl (fun w hb=>x_addU (V.cell_of_block hb (by exact hl)) (V.frozen_of hb))) fun _ _=>pA_ 5 ?_
 intro w' hw;exact⟨(),trivial,rfl,hw⟩
theorem uHit_c (b o:Nat)(l:List Value)(T:TypeId)(x:Int)(hl:l[o]? =some (.int .u64 x))(y:Int):Mo Tryz.prog 30 [.pointer (some ⟨b,o,none⟩),.int .u64 x,.int .u64 y] [[(b,.cells l.toArray T (0,0))]] (fun _u:Unit=>True) (fun _=> .bool true) (fun _=>[[(b,.cells (l.set o (.int .u64 y)).toArray T (0,0))]]):=by
 intro w hs
 refine Ca_ Tryz.func30 rfl Tryz.ntmps30 hs<|pA_ 10 ?_
 refine LW.re 9 (.pointer (some ⟨b,o,none⟩)) rfl rfl<|Lv Mv<|Lv Mv<|Le (Eff.ext (l':=l.set o (.int .u64 y)) rfl .here rfl (fun w hb=>x_hitU (V.cell_of_block hb (by exact hl)) (V.frozen_of hb))) fun _ _=>pA_ 5 ?_
 intro w' hw;exact⟨(),trivial,rfl,hw⟩
theorem uMiss_c (b o:Nat)(l:List Value)(T:TypeId)(x:Int)(hl:l[o]? =some (.int .u64 x))(z y:Int)(hne:¬x=z):Rx Tryz.prog 30 [.pointer (some ⟨b,o,none⟩),.int .u64 z,.int .u64 y] [[(b,.cells l.toArray T (0,0))]] (.bool false):=by
 intro w hs
 refine Ca_ Tryz.func30 rfl Tryz.ntmps30 hs<|pA_ 10 ?_
 refine LW.re 9 (.pointer (some ⟨b,o,none⟩)) rfl rfl<|Lv Mv<|Lv Mv<|Lv (Val.ext rfl (fun w hw=>x_missU (V.cell_of_block (hw.own _ InS.here.mem) (by exact hl)) (V.frozen_of (hw.own _ InS.here.mem)) hne))<|pA_ 5 ?_
 exact fr_ hs
def inR (l:List Int)(t:Int):Prop:=0≤t∧t<l.length
instance (l:List Int)(t:Int):Decidable (inR l t):=inferInstanceAs (Decidable (_∧_))
def rEnter (r:Rdr)(t:Int):Rdr:=if inR r.has t∧r.has.getD t.toNat 0=0 then {r with has:=r.has.set t.toNat r.now} else r
def rEnterE (r:Rdr)(t:Int):Int:=if inR r.has t then(if r.has.getD t.toNat 0=0 then 0 else 7) else 1
def rEnterV (r:Rdr)(t:Int):Int:=if rEnterE r t=0 then r.now else 0
def rLeave (r:Rdr)(t:Int):Rdr:=if inR r.has t then {r with has:=r.has.set t.toNat 0} else r
def rLeaveE (r:Rdr)(t:Int):Int:=if inR r.has t then(if r.has.getD t.toNat 0=0 then 12 else 0) else 1
theorem hasU_at {l:List Int}{t:Int}(h:inR l t):(l.flatMap inU)[t.toNat]? =some (.int .u64 (l.getD t.toNat 0)):=by
 have h1:t.toNat<l.length:=by unfold inR at h;omega
 rw[inU_map,List.getElem?_map,List.getElem?_eq_getElem h1,List.getD_eq_getElem?_getD,List.getElem?_eq_getElem h1]
 rfl
theorem hasU_set (l:List Int)(t:Nat)(v:Int):(l.flatMap inU).set t (.int .u64 v)=(l.set t v).flatMap inU:=by rw[inU_map,inU_map,List.map_set]
theorem rEnter_len (r:Rdr)(t:Int):(rEnter r t).has.length=r.has.length:=by unfold rEnter;split<;>simp
theorem rLeave_len (r:Rdr)(t:Int):(rLeave r t).has.length=r.has.length:=by unfold rLeave;split<;>simp
def thV (hb:Nat)(l:List Int)(t:Int):Value:=if inR l t then .pointer (some ⟨hb,t.toNat,none⟩) else .pointer none
theorem rthread_g (rb hb:Nat)(r:Rdr)(t:Int):Rx Tryz.prog 240 [.pointer (some ⟨rb,0,none⟩),.int .i64 t] (rdS rb hb r) (thV hb r.has t):=by
 intro w hs
 refine Ca_ Tryz.func240 rfl Tryz.ntmps240 hs<|pA_ 15 ?_
 refine LW.split (d:=11) rfl (fun h11=>?_) (fun h11=>?_)
 ·replace h11:=bT h11
  refine pA_ 19 ?_
  intro w' hw;exact⟨by rw[thV,if_neg (by unfold inR;omega)],hw.ro pk_ hs⟩
 ·replace h11:=bF h11
  refine pA_ 4 ?_
  refine Lv Ld<|pA_ 5 ?_
  refine Cd_ rfl (fun h19=>?_) fun h19=>?_
  ·refine pA_ 8 ?_
   intro w' hw;exact⟨by rw[thV,if_neg (by unfold inR;omega)],hw.ro pk_ hs⟩
  ·refine pA_ 7 ?_
   refine Lv Ld<|pA_ 7 ?_
   intro w' hw;exact⟨by rw[thV,if_pos (by unfold inR;omega)];simp,hw.ro pk_ hs⟩
theorem rnow_g (rb hb:Nat)(r:Rdr):Rx Tryz.prog 241 [.pointer (some ⟨rb,0,none⟩)] (rdS rb hb r) (.int .u64 r.now):=by
 intro w hs
 refine Ca_ Tryz.func241 rfl Tryz.ntmps241 hs<|pA_ 20 ?_
 refine Le (CV fun w hw=>uLd_c rb 0 (rdC hb r) 191 r.now w rfl (hw.sat.pick (ss:=[[(rb,.cells (rdC hb r).toArray 191 (0,0))]]) pk_)) fun _ _=>pA_ 5 ?_
 exact fr_ hs
theorem renter_g (rb hb:Nat)(r:Rdr)(t:Int):Mo Tryz.prog 207 [.pointer (some ⟨rb,0,none⟩),.int .i64 t] (rdS rb hb r) (fun _u:Unit=>True) (fun _=> .tuple #[.int .u64 (rEnterV r t),.int .i64 (rEnterE r t)]) (fun _=>rdS rb hb (rEnter r t)):=by
 intro w hs
 by_cases ht:inR r.has t
 ·by_cases h0:r.has.getD t.toNat 0=0
  ·have e1:rEnter r t={r with has:=r.has.set t.toNat r.now}:=if_pos ⟨ht,h0⟩
   have e2:rEnterE r t=0:=(if_pos ht).trans (if_pos h0)
   have e3:rEnterV r t=r.now:=if_pos e2
   rw[e1,e2,e3]
   refine Ca_ Tryz.func207 rfl Tryz.ntmps207 hs<|pA_ 10 ?_
   refine Le (Cr_ (rthread_g rb hb r t)) fun _ _=>LW.re 10 (.pointer (some ⟨hb,t.toNat,none⟩)) rfl (if_pos ht)<|pA_ 16 ?_
   refine Le (Cr_ (rnow_g rb hb r)) fun _ _=>pA_ 8 ?_
   refine Le (CM ([[(hb,.cells (r.has.flatMap inU).toArray 74 (0,0))]]) fun w hw hs0=>h0▸uHit_c hb t.toNat (r.has.flatMap inU) 74 (r.has.getD t.toNat 0) (hasU_at ht) r.now w hs0) fun _ _=>pA_ 14 ?_
   refine Rt2 fun w' hw=>?_
   refine⟨(),trivial,rfl,?_⟩
   rw[hasU_set] at hw
   have h2:=hw.pick (ss:=[[(rb,.cells (rdC hb r).toArray 191 (0,0))],[(hb,.cells ((r.has.set t.toNat r.now).flatMap inU).toArray 74 (0,0))]]) pk_
   unfold rdS rdC
   rw[List.length_set]
   exact h2
  ·have e1:rEnter r t=r:=if_neg (fun h=>h0 h.2)
   have e2:rEnterE r t=7:=(if_pos ht).trans (if_neg h0)
   have e3:rEnterV r t=0:=if_neg (by rw[e2];decide)
   rw[e1,e2,e3]
   refine Ca_ Tryz.func207 rfl Tryz.ntmps207 hs<|pA_ 10 ?_
   refine Le (Cr_ (rthread_g rb hb r t)) fun _ _=>LW.re 10 (.pointer (some ⟨hb,t.toNat,none⟩)) rfl (if_pos ht)<|pA_ 16 ?_
   refine Le (Cr_ (rnow_g rb hb r)) fun _ _=>pA_ 8 ?_
   refine Le (Cr_ (uMiss_c hb t.toNat (r.has.flatMap inU) 74 (r.has.getD t.toNat 0) (hasU_at ht) 0 r.now h0)) fun _ _=>pA_ 13 ?_
   exact fi_ () trivial
 ·have e1:rEnter r t=r:=if_neg (fun h=>ht h.1)
  have e2:rEnterE r t=1:=if_neg ht
  have e3:rEnterV r t=0:=if_neg (by rw[e2];decide)
  rw[e1,e2,e3]
  refine Ca_ Tryz.func207 rfl Tryz.ntmps207 hs<|pA_ 10 ?_
  refine Le (Cr_ (rthread_g rb hb r t)) fun _ _=>LW.re 10 (.pointer none) rfl (if_neg ht)<|pA_ 20 ?_
  exact fi_ () trivial
theorem rleave_g (rb hb:Nat)(r:Rdr)(t:Int):Mo Tryz.prog 222 [.pointer (some ⟨rb,0,none⟩),.int .i64 t] (rdS rb hb r) (fun _u:Unit=>True) (fun _=> .int .i64 (rLeaveE r t)) (fun _=>rdS rb hb (rLeave r t)):=by
 intro w hs
 by_cases ht:inR r.has t
 ·by_cases h0:r.has.getD t.toNat 0=0
  ·have e1:rLeave r t={r with has:=r.has.set t.toNat 0}:=if_pos ht
   have e2:rLeaveE r t=12:=(if_pos ht).trans (if_pos h0)
   rw[e1,e2]
   refine Ca_ Tryz.func222 rfl Tryz.ntmps222 hs<|pA_ 9 ?_
   refine Le (Cr_ (rthread_g rb hb r t)) fun _ _=>LW.re 8 (.pointer (some ⟨hb,t.toNat,none⟩)) rfl (if_pos ht)<|pA_ 17 ?_
   refine Le (Cm_ (uSwap_c hb t.toNat (r.has.flatMap inU) 74 (r.has.getD t.toNat 0) (hasU_at ht) 0)) fun _ _=>Lv Cm<|LW.re 13 (.bool true) rfl (by rw[h0];rfl)<|pA_ 10 ?_
   refine Rt1 fun w' hw=>?_
   refine⟨(),trivial,rfl,?_⟩
   rw[hasU_set] at hw
   have h2:=hw.pick (ss:=[[(rb,.cells (rdC hb r).toArray 191 (0,0))],[(hb,.cells ((r.has.set t.toNat 0).flatMap inU).toArray 74 (0,0))]]) pk_
   unfold rdS rdC
   rw[List.length_set]
   exact h2
  ·have e1:rLeave r t={r with has:=r.has.set t.toNat 0}:=if_pos ht
   have e2:rLeaveE r t=0:=(if_pos ht).trans (if_neg h0)
   rw[e1,e2]
   refine Ca_ Tryz.func222 rfl Tryz.ntmps222 hs<|pA_ 9 ?_
   refine Le (Cr_ (rthread_g rb hb r t)) fun _ _=>LW.re 8 (.pointer (some ⟨hb,t.toNat,none⟩)) rfl (if_pos ht)<|pA_ 17 ?_
   refine Le (Cm_ (uSwap_c hb t.toNat (r.has.flatMap inU) 74 (r.has.getD t.toNat 0) (hasU_at ht) 0)) fun _ _=>Lv Cm<|LW.re 13 (.bool false) rfl (by rw[beq_eq_false_iff_ne.2 h0])<|pA_ 11 ?_
   refine Rt1 fun w' hw=>?_
   refine⟨(),trivial,rfl,?_⟩
   rw[hasU_set] at hw
   have h2:=hw.pick (ss:=[[(rb,.cells (rdC hb r).toArray 191 (0,0))],[(hb,.cells ((r.has.set t.toNat 0).flatMap inU).toArray 74 (0,0))]]) pk_
   unfold rdS rdC
   rw[List.length_set]
   exact h2
 ·have e1:rLeave r t=r:=if_neg ht
  have e2:rLeaveE r t=1:=if_neg ht
  rw[e1,e2]
  refine Ca_ Tryz.func222 rfl Tryz.ntmps222 hs<|pA_ 9 ?_
  refine Le (Cr_ (rthread_g rb hb r t)) fun _ _=>LW.re 8 (.pointer none) rfl (if_neg ht)<|pA_ 19 ?_
  exact fi_ () trivial
end
end G
end Go.Proofs.YtjidffamcdcecaaGreat
namespace Go.Proofs.YtjidffamcdcecaaGreat.V
open Go Go.RowKit
set_option linter.unusedVariables false
section
variable {P:Program}{n:Nat}{B:Base}{ks:Ks}{sg:Sg}{d:Option Tmp}{ty:TypeId}{pos:String}{aft:Array Edge}{g:Option (Nat×Bool)}
theorem Eff.callBM {α:Type}{φ:α→Prop}{v:α→Value}{so:α→Sg}{f:FuncId}{x:Operand}{pre caps:List Value}{xs:List Operand}{vs:List Value}{ats:Array TypeId}(ss:Sg){r:Sg}(hp:Pick ss sg r)(hx:ev ks x=some (.func (.func f) pre.toArray caps.toArray))(hxs:evs ks xs=some vs)(hc:∀(args:Array Value) (w:World),(callFunc f args).run P w= .ok (.enter f args) w)
 (h:∀w,Hp B sg w→Sat ss w→Calls P f (pre++vs++caps).toArray w (fun e w'=>∃x,φ x∧e= .returned (v x)∧Hp ⟨w,ids ss⟩ (so x) w')):
 Eff P n B ⟨d,.call {callee:= .value x,args:=xs.toArray,argTypes:=ats},ty,pos,aft,g⟩ ks sg φ v (fun x=>so x++r):=fun a w K Q ha hw hk=>by
 unfold Oper.wp
 rw[run_callB w ha hx hxs hc]
 exact(h w hw (hw.sat.pick hp)).mono fun e w' ⟨x,hx,he,hb⟩=>by subst he;exact hk x w' hx (hw.call hp hb)
end
end Go.Proofs.YtjidffamcdcecaaGreat.V
