import Derived.Test.YtjidffamcdcecaaGreatQa2
/- What the law leans on, part 3. -/
namespace Go.Proofs.YtjidffamcdcecaaGreat
open Go Go.RowKit V
set_option linter.unusedVariables false
set_option maxRecDepth 100000
set_option maxHeartbeats 1000000
namespace G
section
attribute [local irreducible] V.CW V.LW V.QW V.RW V.PQ V.Val V.Eff V.Qcall
open V (str byC ownV ownG ownS ownOk)
theorem cp2 {α:Type}{A T R N:List α}{a:Nat}(hA:A.length=a)(hT:T.length=N.length):(A++(T++R)).take a++N++(A++(T++R)).drop (a+N.length)=A++(N++R):=by
 subst hA
 rw[List.take_left,← hT,← List.drop_drop,List.drop_left,List.drop_left,List.append_assoc]
theorem cp1 {α:Type}{A C R:List α}{a:Nat}(hA:A.length=a)(hC:5≤C.length)(hR:5≤R.length):((A++C)++R).take (a+5)++C++((A++C)++R).drop (a+5+C.length)=A++(C.take 5++(C++R.drop 5)):=by
 subst hA
 have h1:((A++C)++R).take (A.length+5)=A++C.take 5:=by
  rw[List.append_assoc,List.take_append,List.take_of_length_le om_,show A.length+5-A.length=5 by omega,List.take_append,show 5-C.length=0 by omega]
  simp
 have h2:((A++C)++R).drop (A.length+5+C.length)=R.drop 5:=by
  rw[show A.length+5+C.length=(A++C).length+5 by simp;omega,← List.drop_drop,List.drop_left]
 rw[h1,h2]
 simp
def insL (l:List Lk)(i:Nat)(x:Lk):List Lk:=l.take i++x::l.drop i
theorem insL_len (l:List Lk)(i:Nat)(x:Lk)(hi:i≤l.length):(insL l i x).length=l.length+1:=by unfold insL;simp only[List.length_append,List.length_cons,List.length_take,List.length_drop];omega
theorem lkCs_len (l:List Lk):(l.flatMap lkC).length=l.length*5:=V.flatMap_len lkC_len l
theorem insert_c (l:List Lk)(y:V.OwnO)(i:Nat)(x:Lk)(xb xc:Nat)(w:World)(hy:ownOk 5 l.length (l.flatMap lkC) y)(hl:l.length≤1000)(hi:i≤l.length)(hs:Sat [ownG 108 (l.flatMap lkC) y] w)(hx:w.heap[xb]? =some (.cells (lkC x).toArray 108 (0,0)))(hne:xb∉V.ids [ownG 108 (l.flatMap lkC) y]):
 Calls Tryz.prog 194 [ownV l.length y,.int .i64 (i:Nat),.slice (some ⟨xb,0,none⟩) 1 xc].toArray w fun e w'=>∃y':V.OwnO,ownOk 5 (insL l i x).length ((insL l i x).flatMap lkC) y'∧e= .returned (ownV (insL l i x).length y')∧Hp ⟨w,V.ids [ownG 108 (l.flatMap lkC) y]⟩ [ownG 108 ((insL l i x).flatMap lkC) y'] w':=by
 rw[insL_len l i x hi]
 have hxl:=V.lt_of_some hx
 rcases y with _|⟨gb,rest,cap⟩
 ·have hl0:l=[]:=List.length_eq_zero_iff.1 hy.2
  obtain rfl:i=0:=by rw[hl0] at hi;simpa using hi
  have hfin:(insL l 0 x).flatMap lkC=l.flatMap lkC++lkC x:=by unfold insL;rw[hl0];rfl
  refine Cs_ [ownG 108 (l.flatMap lkC) none] Tryz.func194 rfl Tryz.ntmps194 hs<|pA_ 9 ?_
  refine Lv (Val.sliceG 0 0 0 rfl Tryz.underlying104 Tryz.sizeOf108 ⟨_,rfl⟩ (by rw[hl0];rfl) rfl (fun _=>rfl) om_ om_ om_)<|pA_ 14 ?_
  refine LW.re 16 (.bool false) rfl (by rfl)<|pA_ 18 ?_
  refine LW.re 22 (.bool true) rfl (by rfl)<|pA_ 7 ?_
  refine Le (Eff.appendAny (lkC x) (sz:=5) (bytes:=48) (z:= .agg #[.string ⟨#[]⟩,.int .u64 0,.int .u64 0,.int .i64 0,.int .i64 0]) (xs:=l.flatMap lkC) (m0:=l.length) (o:=none) (m:=1) (pk:=[ownG 108 (l.flatMap lkC) none]) rfl rfl Tryz.underlying104 kr_ rfl om_ pk_ (by simp) (hy) (by rfl) (fun hm0=>⟨xb,0,rfl,fun w1 hw1=>V.range_of_block (o:=0) (cs:=lkC x) (r:=[]) ((hw1.old xb hxl hne).trans hx) (by simp)⟩) (by rfl) om_ om_) fun o9 ho9=>?_
  rw[← hfin] at ho9⊢
  refine pA_ 6 ?_
  exact fi_ o9 ho9
 ·obtain⟨A,hA⟩:∃A,A=(l.take i).flatMap lkC:=⟨_,rfl⟩
  obtain⟨C,hC⟩:∃C,C=(l.drop i).flatMap lkC:=⟨_,rfl⟩
  obtain⟨zl,hz⟩:∃zl:List Value,zl=[.string ⟨#[]⟩,.int .u64 0,.int .u64 0,.int .i64 0,.int .i64 0]:=⟨_,rfl⟩
  have hzl:zl.length=5:=by rw[hz];rfl
  have hAC:l.flatMap lkC=A++C:=by rw[hA,hC,← List.flatMap_append,List.take_append_drop]
  have hAl:A.length=i*5:=by rw[hA,lkCs_len,List.length_take];congr 1;omega
  have hCl:C.length=(l.length-i)*5:=by rw[hC,lkCs_len,List.length_drop]
  have hC1:C.all (·.oneCell')=true:=by rw[hC];exact all_one lkC_one _
  have hfin:(insL l i x).flatMap lkC=A++(lkC x++C):=by unfold insL;rw[hA,hC];simp
  have hcap:(A++C).length+rest.length=cap*5:=by rw[← hAC];exact hy.2
  have hcap2:l.length≤cap:=by simp only[List.length_append,hAl,hCl] at hcap;omega
  have hcap3:i*5+(l.length-i)*5+rest.length=cap*5:=by simp only[List.length_append,hAl,hCl] at hcap;omega
  rw[hAC] at hs
  refine Cs_ [[(gb,.cells (((A++C)++rest)).toArray 108 (0,0))]] Tryz.func194 rfl Tryz.ntmps194 hs<|pA_ 9 ?_
  refine Lv (Val.slice (i) (l.length) (cap) rfl Tryz.underlying104 Tryz.sizeOf108 ⟨_,rfl⟩ rfl rfl (fun _=>rfl) om_ om_ om_)<|pA_ 14 ?_
  refine LW.re 16 (.bool false) rfl (by rfl)<|pA_ 20 ?_
  refine Cd_ rfl (fun h22=>?_) fun h22=>?_
  ·have h22:(i:Int)=(l.length:Int):=h22
   refine pA_ 4 ?_
   refine Le (Eff.appendAny (lkC x) (sz:=5) (bytes:=48) (z:= .agg #[.string ⟨#[]⟩,.int .u64 0,.int .u64 0,.int .i64 0,.int .i64 0]) (xs:=(A++C)) (m0:=l.length) (o:=some (gb,rest,cap)) (m:=1) (pk:=[[(gb,.cells (((A++C)++rest)).toArray 108 (0,0))]]) rfl rfl Tryz.underlying104 kr_ rfl om_ pk_ (by rfl) (by rw[← hAC];exact hy) (by rfl) (fun hm0=>⟨xb,0,rfl,fun w1 hw1=>V.range_of_block (o:=0) (cs:=lkC x) (r:=[]) ((hw1.old xb hxl hne).trans hx) (by simp)⟩) (by rfl) om_ om_) fun o9 ho9=>pA_ 6 ?_
   have hC0:C=[]:=List.length_eq_zero_iff.1 om_
   have e9:A++(lkC x++C)=(A++C)++lkC x:=by rw[hC0];simp
   rw[hfin,e9]
   exact fi_ o9 ho9
  ·have h22:(i:Int)≠(l.length:Int):=h22
   refine pA_ 9 ?_
   refine Lv (Val.capSl rfl Tryz.underlying104)<|pA_ 3 ?_
   refine Cd_ rfl (fun h31=>?_) fun h31=>?_
   ·have h31:(cap:Int)<(l.length:Int)+1:=h31
    refine Sq<|Rg<|Lv Mv<|Lv Mv<|Lv (Val.slice (0) (i) (cap) rfl Tryz.underlying104 Tryz.sizeOf108 rfl ⟨_,rfl⟩ rfl (fun _=>rfl) om_ om_ om_)<|LW.re 34 (.slice (some ⟨gb,0,none⟩) (i) (cap)) rfl (by first|(rw[if_neg om_];simp;done)|(simp;done))<|Lv Mv<|Lv Mv<|Lv Ar<|Lv Mv<|Lv Ar<|LW.re 39 (.int .i64 ((l.length-i+1:Nat):Int)) rfl (by congr 1;omega)<|Le (Eff.appendMake (sz:=5) (bytes:=48) (z:= .agg #[.string ⟨#[]⟩,.int .u64 0,.int .u64 0,.int .i64 0,.int .i64 0]) (zl:=zl) (olds:=A) (k:=l.length-i+1) rfl rfl Tryz.underlying104 Tryz.underlying3 kr_ (by rw[hz];rfl) hzl om_ hAl (fun w1 hw1=>V.range_of_block (o:=0) (r:=C++rest) (hw1.own _ (show InS (gb,.cells ((A++C)++rest).toArray 108 (0,0)) _ from in_).mem) (by simp)) om_ om_ om_ om_) ?_
    rintro o40 ⟨ho40,hs40⟩
    obtain⟨⟨g4,r4,c4⟩,rfl⟩:=Option.isSome_iff_exists.1 hs40
    obtain⟨_,hc4⟩:=ho40
    simp only at hc4
    have hc42:l.length+1≤c4:=by simp only[List.length_append,hAl,V.repL_length,hzl] at hc4;omega
    refine V.LW.perm (sg':=[[(g4,.cells ((A++(zl++(V.repL zl (l.length-i)++r4)))).toArray 108 (0,0))],[(gb,.cells (((A++C)++rest)).toArray 108 (0,0))]]) ?_ (by simp[V.ownG,V.ownS,V.repL])
    refine LW.re 40 (.slice (some ⟨g4,0,none⟩) (l.length+1) c4) rfl (by rw[show i+(l.length-i+1)=l.length+1 from by omega];rfl)<|Lv Av<|Nl<|Ps<|Sq<|Rg<|Lv Mv<|Lv Mv<|Lv (Val.slice (i) (l.length+1) (c4) rfl Tryz.underlying104 Tryz.sizeOf108 ⟨_,rfl⟩ rfl rfl (fun _=>rfl) om_ om_ om_)<|LW.re 43 (.slice (some ⟨g4,i*5,none⟩) (l.length+1-i) (c4-i)) rfl (by first|(rw[if_neg om_];simp;done)|(simp;done))<|Lv Mv<|Le (Eff.copy (cs:=lkC x) (gb:=g4) (cur:=(A++(zl++(V.repL zl (l.length-i)++r4)))) (cells':=((A++lkC x)++(V.repL zl (l.length-i)++r4))) (m:=1) (sz:=5) rfl rfl Tryz.underlying104 kr_ up_ (by rw[show i*5=A.length from hAl.symm,cp2 rfl (by rw[hzl];rfl),List.append_assoc]) (show min (1) (l.length+1-i)=_ from by omega) (by first|rfl|exact hCl|omega) (fun w1 hw1 j u hj=>by rw[Addr.add_mid];exact(V.range_of_block (o:=0) (cs:=lkC x) (r:=[]) ((hw1.old xb hxl hne).trans hx) (by simp)) j u hj) (by simp only[List.length_append,hAl,lkC_len,V.repL_length,hzl];omega) (by first|rfl|exact hC1)) fun _ _=>Nl<|Ps<|Sq<|Dr ([[(gb,.cells (((A++C)++rest)).toArray 108 (0,0))]])<|Rv 0 rfl Mv<|Rv 1 rfl Mv<|Rv 2 rfl Mv<|Rv 3 rfl Ar<|RW.re 49 (.int .i64 ((i+1:Nat):Int)) rfl (by congr 1)<|Rv 4 rfl (Val.slice (i+1) (l.length+1) (c4) rfl Tryz.underlying104 Tryz.sizeOf108 ⟨_,rfl⟩ rfl rfl (fun _=>rfl) om_ om_ om_)<|RW.re 50 (.slice (some ⟨g4,(i+1)*5,none⟩) (l.length+1-(i+1)) (c4-(i+1))) rfl (by first|(rw[if_neg om_];simp;done)|(simp;done))<|Rv 5 rfl Mv<|Rv 6 rfl Mv<|Rv 7 rfl (Val.slice (i) (l.length) (cap) rfl Tryz.underlying104 Tryz.sizeOf108 ⟨_,rfl⟩ rfl rfl (fun _=>rfl) om_ om_ om_)<|RW.re 53 (.slice (some ⟨gb,i*5,none⟩) (l.length-i) (cap-i)) rfl (by first|(rw[if_neg om_];simp;done)|(simp;done))<|Re 8 rfl (Eff.copy (cs:=C) (gb:=g4) (cur:=((A++lkC x)++(V.repL zl (l.length-i)++r4))) (cells':=((A++lkC x)++(C++r4))) (m:=l.length-i) (sz:=5) rfl rfl Tryz.underlying104 kr_ up_ (cp2 (by simp only[List.length_append,hAl,lkC_len];omega) (by rw[V.repL_length,hzl,hCl])) (show min (l.length-i) (l.length+1-(i+1))=_ from by omega) (by first|rfl|exact hCl|omega) (fun w1 hw1 j u hj=>by rw[Addr.add_mid];exact(V.range_of_block (o:=i*5) (cs:=C) (r:=rest) (hw1.own _ (show InS (gb,.cells ((A++C)++rest).toArray 108 (0,0)) _ from in_).mem) (by rw[List.append_assoc,← hAl,List.drop_left])) j u hj) (by simp only[List.length_append,hAl,hCl,lkC_len,V.repL_length,hzl];omega) (by first|rfl|exact hC1)) ?_
    intro _ _
    refine pA_ 11 ?_
    have e9:((A++lkC x)++(C++r4))=(A++(lkC x++C))++r4:=by simp
    rw[hfin]
    intro w' hw
    rw[e9] at hw
    exact⟨some (g4,r4,c4),⟨by simp only[List.length_append,hAl,hCl,lkC_len];omega,by simp only[List.length_append,hAl,hCl,lkC_len,V.repL_length,hzl] at hc4⊢;omega⟩,rfl,hw.pick (ss:=[[(g4,.cells ((A++(lkC x++C))++r4).toArray 108 (0,0))]]) pk_⟩
   ·have h31:(l.length:Int)+1≤(cap:Int):=h31
    refine pA_ 8 ?_
    refine LW.re 59 (.int .i64 ((l.length+1:Nat):Int)) rfl (by congr 1)<|Lv (Val.slice (0) (l.length+1) (cap) rfl Tryz.underlying104 Tryz.sizeOf108 rfl ⟨_,rfl⟩ rfl (fun _=>rfl) om_ om_ om_)<|LW.re 60 (.slice (some ⟨gb,0,none⟩) (l.length+1) (cap)) rfl (by first|(rw[if_neg om_];simp;done)|(simp;done))<|pA_ 11 ?_
    refine LW.re 65 (.int .i64 ((i+1:Nat):Int)) rfl (by congr 1)<|Lv (Val.slice (i+1) (l.length+1) (cap) rfl Tryz.underlying104 Tryz.sizeOf108 ⟨_,rfl⟩ rfl rfl (fun _=>rfl) om_ om_ om_)<|LW.re 66 (.slice (some ⟨gb,(i+1)*5,none⟩) (l.length+1-(i+1)) (cap-(i+1))) rfl (by first|(rw[if_neg om_];simp;done)|(simp;done)) ?_
    refine LW.v rfl rfl (Val.callX (v:= .bool false) rfl (fun w1 hw1=>by
     have hgb:=hw1.own _ (show InS (gb,.cells ((A++C)++rest).toArray 108 (0,0)) _ from in_).mem
     have hxb:=(hw1.old xb hxl hne).trans hx
     rw[run_callFunc_extern Tryz.func228 kr_ kr_ kr_ (e:=Extern.SlicesOverlaps.overlaps #[104,104] #[4]) kr_]
     have hr:=Go.Lib.run_overlaps_apart (P:=Tryz.prog) w1 104 4 108 Tryz.underlying104 5 Tryz.sizeOf108 ⟨xb,0,none⟩ ⟨gb,(i+1)*5,none⟩ 1 xc (l.length+1-(i+1)) (cap-(i+1)) (fun h8=>hne (by simp only at h8;rw[h8];exact List.mem_singleton.2 rfl)) 108 108 5 (((A++C)++rest).length) (by simp[World.shape?,hxb,lkC]) (by simp[World.shape?,hgb]) (by simp only[List.length_append,hAl,hCl];omega) (by simp[World.frozen?,hxb]) (by simp[World.frozen?,hxb])
     rw[hr]
     rfl)) ?_
    refine Lv Nt<|LW.re 68 (.bool true) rfl (by rfl)<|Nl<|Ps<|Ct<|Sq<|Dr ([])<|Rv 0 rfl Mv<|Rv 1 rfl Mv<|Rv 2 rfl Mv<|Rv 3 rfl Ar<|RW.re 72 (.int .i64 ((i+1:Nat):Int)) rfl (by congr 1)<|Rv 4 rfl (Val.slice (i+1) (l.length+1) (cap) rfl Tryz.underlying104 Tryz.sizeOf108 ⟨_,rfl⟩ rfl rfl (fun _=>rfl) om_ om_ om_)<|RW.re 73 (.slice (some ⟨gb,(i+1)*5,none⟩) (l.length+1-(i+1)) (cap-(i+1))) rfl (by first|(rw[if_neg om_];simp;done)|(simp;done))<|Rv 5 rfl Mv<|Rv 6 rfl Mv<|Rv 7 rfl (Val.slice (i) (l.length+1) (cap) rfl Tryz.underlying104 Tryz.sizeOf108 ⟨_,rfl⟩ rfl rfl (fun _=>rfl) om_ om_ om_)<|RW.re 76 (.slice (some ⟨gb,i*5,none⟩) (l.length+1-i) (cap-i)) rfl (by first|(rw[if_neg om_];simp;done)|(simp;done))<|Re 8 rfl (Eff.copy (cs:=C) (gb:=gb) (cur:=((A++C)++rest)) (cells':=(A++(C.take 5++(C++rest.drop 5)))) (m:=l.length-i) (sz:=5) rfl rfl Tryz.underlying104 kr_ up_ (by rw[Nat.add_mul];exact cp1 hAl om_ (by simp only[List.length_append,hAl,hCl] at hcap;omega)) (show min (l.length+1-i) (l.length+1-(i+1))=_ from by omega) (by first|rfl|exact hCl|omega) (fun w1 hw1 j u hj=>by rw[Addr.add_mid];exact(V.range_of_block (o:=i*5) (cs:=C) (r:=rest) (hw1.own _ (show InS (gb,.cells ((A++C)++rest).toArray 108 (0,0)) _ from in_).mem) (by rw[List.append_assoc,← hAl,List.drop_left])) j u hj) (by simp only[List.length_append,hAl,hCl];omega) (by first|rfl|exact hC1)) ?_
    intro _ _
    refine pA_ 6 ?_
    refine Lv (Val.slice (i) (l.length+1) (cap) rfl Tryz.underlying104 Tryz.sizeOf108 ⟨_,rfl⟩ rfl rfl (fun _=>rfl) om_ om_ om_)<|LW.re 80 (.slice (some ⟨gb,i*5,none⟩) (l.length+1-i) (cap-i)) rfl (by first|(rw[if_neg om_];simp;done)|(simp;done))<|Lv Mv<|Le (Eff.copy (cs:=lkC x) (gb:=gb) (cur:=(A++(C.take 5++(C++rest.drop 5)))) (cells':=(A++(lkC x++(C++rest.drop 5)))) (m:=1) (sz:=5) rfl rfl Tryz.underlying104 kr_ up_ (cp2 hAl (by rw[List.length_take,hCl,lkC_len];omega)) (show min (1) (l.length+1-i)=_ from by omega) (by first|rfl|exact hCl|omega) (fun w1 hw1 j u hj=>by rw[Addr.add_mid];exact(V.range_of_block (o:=0) (cs:=lkC x) (r:=[]) ((hw1.old xb hxl hne).trans hx) (by simp)) j u hj) (by simp only[List.length_append,List.length_drop,List.length_take,hAl,hCl,lkC_len];omega) (by first|rfl|exact hC1)) fun _ _=>pA_ 11 ?_
    have e9:(A++(lkC x++(C++rest.drop 5)))=(A++(lkC x++C))++rest.drop 5:=by simp
    rw[hfin]
    intro w' hw
    rw[e9] at hw
    exact⟨some (gb,rest.drop 5,cap),⟨by simp only[List.length_append,hAl,hCl,lkC_len];omega,by simp only[List.length_append,List.length_drop,hAl,hCl,lkC_len] at hcap⊢;omega⟩,rfl,hw.pick (ss:=[[(gb,.cells ((A++(lkC x++C))++rest.drop 5).toArray 108 (0,0))]]) pk_⟩
end
section
attribute [local irreducible] V.CW V.LW V.QW V.RW V.PQ V.Val V.Eff V.Qcall
open V (str byC ownV ownG ownS ownOk)
instance:Und Tryz.prog 114 (dOf Tryz.underlying114):=⟨Tryz.underlying114⟩
instance:Cal Tryz.prog 69:=⟨Tryz.call69⟩
instance:Cal Tryz.prog 92:=⟨Tryz.call92⟩
instance:Cal Tryz.prog 226:=⟨Tryz.call226⟩
theorem cmp_lt:∀a b:List UInt8,Go.Lib.compareBytes a b<0↔a<b
 |[],[]=>by simp[Go.Lib.compareBytes]
 |[],_::_=>by simp[Go.Lib.compareBytes]
 |_::_,[]=>by simp[Go.Lib.compareBytes]
 |a::x,b::y=>by
  have ih:=cmp_lt x y
  unfold Go.Lib.compareBytes
  rw[List.cons_lt_cons_iff]
  by_cases h1:a<b
  ·simp[h1]
  ·by_cases h2:b<a
   ·have h3:a≠b:=fun e=>by subst e;exact UInt8.lt_irrefl a h2
    simp[h1,h2,h3]
   ·have h3:a=b:=UInt8.toNat_inj.1 (by rw[UInt8.lt_iff_toNat_lt] at h1 h2;omega)
    subst h3
    simp[h1,ih]
theorem cmp_eq:∀a b:List UInt8,Go.Lib.compareBytes a b=0↔a=b
 |[],[]=>by simp[Go.Lib.compareBytes]
 |[],_::_=>by simp[Go.Lib.compareBytes]
 |_::_,[]=>by simp[Go.Lib.compareBytes]
 |a::x,b::y=>by
  have ih:=cmp_eq x y
  unfold Go.Lib.compareBytes
  by_cases h1:a<b
  ·have h3:a≠b:=fun e=>by subst e;exact UInt8.lt_irrefl a h1
   simp[h1,h3]
  ·by_cases h2:b<a
   ·have h3:a≠b:=fun e=>by subst e;exact UInt8.lt_irrefl a h2
    simp[h1,h2,h3]
   ·have h3:a=b:=UInt8.toNat_inj.1 (by rw[UInt8.lt_iff_toNat_lt] at h1 h2;omega)
    subst h3
    simp[h1,ih]
def bsGo (l:List Lk)(key:List UInt8):Nat→Nat→Nat→Nat
 |0,i,_=>i
 |f+1,i,j=>if i<j then(if((l[(i+j)/2]?).getD lk0).key<key then bsGo l key f ((i+j)/2+1) j else bsGo l key f i ((i+j)/2)) else i
theorem bsGo_fuel (l:List Lk)(key:List UInt8):∀(f f' i j:Nat),j-i≤f→j-i≤f'→bsGo l key f i j=bsGo l key f' i j
 |0,0,i,j,_,_=>rfl
 |0,f'+1,i,j,h,_=>by rw[bsGo,bsGo,if_neg om_]
 |f+1,0,i,j,_,h=>by rw[bsGo,bsGo,if_neg om_]
 |f+1,f'+1,i,j,h,h'=>by
  rw[bsGo,bsGo]
  by_cases hij:i<j
  ·rw[if_pos hij,if_pos hij]
   split
   ·exact bsGo_fuel l key f f' _ _ om_ om_
   ·exact bsGo_fuel l key f f' _ _ om_ om_
  ·rw[if_neg hij,if_neg hij]
theorem bsGo_le (l:List Lk)(key:List UInt8):∀(f i j:Nat),i≤j→bsGo l key f i j≤j
 |0,i,j,h=>h
 |f+1,i,j,h=>by
  rw[bsGo]
  split
  ·split
   ·exact bsGo_le l key f _ _ om_
   ·exact Nat.le_trans (bsGo_le l key f _ _ om_) om_
  ·exact h
theorem half_nat (a:Nat):Value.int .u64 (((a:Nat):Int).fdiv (2^min (Int.toNat 1) IntKind.u64.bits))= .int .u64 ((a/2:Nat):Int):=by
 have e8:(2:Int)^(min (Int.toNat 1) IntKind.u64.bits)=2:=by decide
 rw[e8,Int.fdiv_eq_ediv_of_nonneg _ om_]
 rfl
def posF (l:List Lk)(key:List UInt8):Nat:=bsGo l key l.length 0 l.length
def hasF (l:List Lk)(key:List UInt8):Bool:=decide (posF l key<l.length)&&decide (((l[posF l key]?).getD lk0).key=key)
theorem posF_le (l:List Lk)(key:List UInt8):posF l key≤l.length:=bsGo_le l key _ _ _ om_
theorem bs_step {l:List Lk}{key:List UInt8}{i j:Nat}{x:Lk}(h:i<j)(hx:l[(i+j)/2]? =some x):bsGo l key (j-i) i j=if x.key<key then bsGo l key (j-((i+j)/2+1)) ((i+j)/2+1) j else bsGo l key ((i+j)/2-i) i ((i+j)/2):=by
 obtain⟨f,hf⟩:∃f,j-i=f+1:=⟨j-i-1,by omega⟩
 rw[hf,bsGo,if_pos h,hx,Option.getD_some]
 split
 ·exact bsGo_fuel l key _ _ _ _ om_ om_
 ·exact bsGo_fuel l key _ _ _ _ om_ om_
theorem cmpS_c (a b:List UInt8):Rz Tryz.prog 92 [str a,str b] (.int .i64 (Go.Lib.compareBytes a b)):=by
 intro w
 refine Cb_ Tryz.func92 rfl Tryz.ntmps92<|pA_ 9 ?_
 refine LW.v rfl rfl (Val.callX (v:= .int .i64 (Go.Lib.compareBytes a b)) rfl (fun w1 hw1=>by
  rw[run_callFunc_extern Tryz.func136 kr_ kr_ kr_ (e:=Extern.BytealgCompare.compare) kr_]
  have hr:=Go.Lib.run_compareString (P:=Tryz.prog) ⟨a.toArray⟩ ⟨b.toArray⟩ w1
  show Result.andThen ((Extern.BytealgCompare.compare #[.string ⟨a.toArray⟩,.string ⟨b.toArray⟩]).run Tryz.prog w1) _=_
  rw[hr]
  rfl)) ?_
 refine pA_ 5 ?_
 exact fb_
theorem compare_c (a b:List UInt8):Rz Tryz.prog 69 [str a,str b] (.int .i64 (Go.Lib.compareBytes a b)):=by
 intro w
 refine Cb_ Tryz.func69 rfl Tryz.ntmps69<|pA_ 9 ?_
 refine Le (Cz_ (cmpS_c a b)) fun _ _=>pA_ 5 ?_
 exact fb_
theorem find1_c (x:Lk)(key:List UInt8):Rz Tryz.prog 227 [.agg (lkC x).toArray,str key] (.int .i64 (Go.Lib.compareBytes x.key key)):=by
 intro w
 refine Cb_ Tryz.func227 rfl Tryz.ntmps227<|Sq<|Rg<|Le XA fun b2 _=>pA_ 6 ?_
 refine Lv (Ld (v:=str x.key))<|Lv Mv<|Le (Cz_ (compare_c x.key key)) fun _ _=>pA_ 5 ?_
 exact fb_
theorem bsearch_c (l:List Lk)(p:Option Addr)(c:Nat)(key:List UInt8)(hl:l.length≤100000)(w:World)(h:V.slAt w p 5 lkC l):Calls Tryz.prog 226 [.slice p l.length c,str key,.func (.func 227) #[] #[]].toArray w fun e w'=>e= .returned (.tuple #[.int .i64 (posF l key:Nat),.bool (hasF l key)])∧Below w.heap.size w w':=by
 refine Cb_ Tryz.func226 rfl Tryz.ntmps226<|pA_ 22 ?_
 refine loopA (γ:=Nat×Nat) (fun k=>[(0,.slice p l.length c),(1,str key),(2,.func (.func 227) #[] #[]),(8,.int .i64 (l.length:Nat)),(9,.int .i64 (k.1:Nat)),(10,.int .i64 (k.2:Nat))]) (fun _=>[]) (fun k=>k.1≤k.2∧k.2≤l.length∧posF l key=bsGo l key (k.2-k.1) k.1 k.2) (fun k=>k.2-k.1) ((0,l.length)) ⟨Nat.zero_le _,Nat.le_refl _,rfl⟩ fun k=>?_
 rintro⟨hk1,hk2,hk3⟩
 refine pA_ 8 ?_
 refine Cd_ rfl (fun h17=>?_) fun h17=>?_
 ·obtain⟨b1,o1,x,hp1,hb1,hx1,hr1⟩:=V.slAt_at h rfl (k:=((k.1+k.2)/2)) om_
  have hbs:=bs_step (key:=key) (show k.1<k.2 by omega) hx1
  refine pA_ 8 ?_
  refine LW.re 20 (.int .i64 ((k.1+k.2:Nat):Int)) rfl (by congr 1)<|Lv Cv<|LW.re 21 (.int .u64 ((k.1+k.2:Nat):Int)) rfl (by congr 1;exact IntWalk.u64_in _ om_)<|Lv (Val.shr rfl rfl om_)<|LW.re 22 (.int .u64 (((k.1+k.2)/2):Nat)) rfl (by rw[half_nat])<|Lv Cv<|LW.re 23 (.int .i64 (((k.1+k.2)/2):Nat)) rfl (by congr 1;exact IntWalk.i64_in _ om_)<|pA_ 8 ?_
  refine Lv ((by rw[hp1];exact Val.indexAddrN (i:=((k.1+k.2)/2)) rfl rfl Tryz.underlying104 Tryz.sizeOf108 om_))<|Lv (Val.loadOA rfl Tryz.isAgg108 hb1 (by simp[ids]) (hr1 (((k.1+k.2)/2)) _ hx1) Tryz.sizeOf108)<|Lv Mv<|Le (Eff.callFV (f:=227) (caps:=[]) rfl rfl Tryz.call227 (fun w hw=>find1_c x key w)) fun _ _=>pA_ 3 ?_
  refine Cd_ rfl (fun h31=>?_) fun h31=>?_
  ·rw[if_pos ((cmp_lt _ _).1 h31)] at hbs
   refine pA_ 6 ?_
   exact roundA ((((k.1+k.2)/2)+1,k.2)) ⟨by simp only;omega,hk2,by rw[hk3,hbs]⟩ (by simp only;omega)
  ·rw[if_neg (fun e=>by have:=(cmp_lt _ _).2 e;omega)] at hbs
   refine pA_ 5 ?_
   exact roundA ((k.1,((k.1+k.2)/2))) ⟨by simp only;omega,by simp only;omega,by rw[hk3,hbs]⟩ (by simp only;omega)
 ·refine pA_ 12 ?_
  refine LW.split (d:=39) rfl (fun h39=>?_) (fun h39=>?_)
  ·replace h39:=bT h39
   obtain⟨b2,o2,y,hp2,hb2,hx2,hr2⟩:=V.slAt_at h rfl (k:=k.1) om_
   refine pA_ 3 ?_
   refine Lv ((by rw[hp2];exact Val.indexAddrN (i:=k.1) rfl rfl Tryz.underlying104 Tryz.sizeOf108 om_))<|Lv (Val.loadOA rfl Tryz.isAgg108 hb2 (by simp[ids]) (hr2 (k.1) _ hx2) Tryz.sizeOf108)<|Lv Mv<|Le (Eff.callFV (f:=227) (caps:=[]) rfl rfl Tryz.call227 (fun w hw=>find1_c y key w)) fun _ _=>Lv Cm<|LW.re 47 (.bool (decide (y.key=key))) rfl (by congr 1;rw[Bool.eq_iff_iff];simp[cmp_eq])<|pA_ 7 ?_
   have hpo:posF l key=k.1:=by rw[hk3,show k.2-k.1=0 by omega];rfl
   have hha:hasF l key=decide (y.key=key):=by unfold hasF;rw[hpo,decide_eq_true om_,hx2];rfl
   rw[hha,hpo]
   exact fb_
  ·replace h39:=bF h39
   refine pA_ 15 ?_
   have hpo:posF l key=k.1:=by rw[hk3,show k.2-k.1=0 by omega];rfl
   have hha:hasF l key=false:=by unfold hasF;rw[decide_eq_false om_];rfl
   rw[hpo,hha]
   exact fb_
theorem find_o (l:List Lk)(p:Option Addr)(c:Nat)(key:List UInt8)(hl:l.length≤100000)(w:World)(h:V.slAt w p 5 lkC l):Calls Tryz.prog 193 [.slice p l.length c,str key].toArray w fun e w'=>e= .returned (.tuple #[.int .i64 (posF l key:Nat),.bool (hasF l key)])∧Below w.heap.size w w':=by
 refine Cb_ Tryz.func193 rfl Tryz.ntmps193<|pA_ 10 ?_
 refine Le (CV fun w hw=>bsearch_c l p c key hl w (hw.slAt h (by simp[ids]))) fun _ _=>pA_ 8 ?_
 exact fb_
def textF (l:List UInt8):Int:=xorI (l.foldl stepB 4294967295) 4294967295
theorem text_c (l:List UInt8)(hl:l.length≤100000):Rz Tryz.prog 210 [str l] (.int .u32 (textF l)):=by
 intro w
 refine Cb_ Tryz.func210 rfl Tryz.ntmps210<|pA_ 19 ?_
 refine loopA (γ:=Nat) (fun j=>[(0,str l),(3,.int .u32 ((l.take j).foldl stepB 4294967295)),(6,.int .i64 (l.length:Nat)),(7,.int .i64 (j:Nat))]) (fun _=>[]) (fun j=>j≤l.length) (fun j=>l.length-j) (0) (Nat.zero_le _) fun j hj=>pA_ 6 ?_
 refine Cd_ rfl (fun h8=>?_) fun h8=>?_
 ·obtain⟨u,huj⟩:∃u,l[j]? =some u:=⟨l[j]'om_,by simp⟩
  refine pA_ 14 ?_
  refine Lv (Val.indexStr (i:=j) rfl rfl Tryz.underlying9 huj)<|Le (Cz_ (step_c ((l.take j).foldl stepB 4294967295) u)) fun _ _=>LW.re 14 (.int .u32 ((l.take (j+1)).foldl stepB 4294967295)) rfl (by rw[fold_take huj])<|pA_ 8 ?_
  exact roundA (j+1) om_ om_
 ·have hte:l.take j=l:=List.take_of_length_le om_
  refine pA_ 8 ?_
  refine Lv (Val.xor rfl rfl)<|LW.re 17 (.int .u32 (textF l)) rfl (by rw[hte];rfl)<|pA_ 5 ?_
  exact fb_
end
section
attribute [local irreducible] V.CW V.LW V.QW V.RW V.PQ V.Val V.Eff V.Qcall
open V (str byC ownV ownG ownS ownOk)
instance:Cal Tryz.prog 210:=⟨Tryz.call210⟩
theorem text_rng (l:List UInt8):0≤textF l∧textF l<4294967296:=by
 unfold textF xorI
 rw[IntKind.wrap_u32]
 omega
def lvB (s:Int)(k:Nat):Int:=IntKind.u32.wrap (BitVec.ofInt IntKind.u32.bits (s.fdiv (2^(min ((31:Int)-(k:Nat)).toNat IntKind.u32.bits)))&&& BitVec.ofInt IntKind.u32.bits 1).toNat
def levF (key:List UInt8):Nat:=if lvB (textF key) 0=0 then 1 else if lvB (textF key) 1=0 then 2 else if lvB (textF key) 2=0 then 3 else 4
theorem levF_rng (key:List UInt8):1≤levF key∧levF key≤4:=by unfold levF;split;omega;split;omega;split<;>omega
theorem lev_at {key:List UInt8}{k:Nat}(hk:k<3)(h:∀j:Nat,j<k→lvB (textF key) j≠0)(h0:lvB (textF key) k=0):levF key=1+k:=by
 unfold levF
 have hc:k=0∨k=1∨k=2:=by omega
 rcases hc with rfl|rfl|rfl
 ·rw[if_pos h0]
 ·rw[if_neg (h 0 om_),if_pos h0]
 ·rw[if_neg (h 0 om_),if_neg (h 1 om_),if_pos h0]
theorem lev_end {key:List UInt8}(h:∀j:Nat,j<3→lvB (textF key) j≠0):levF key=4:=by
 unfold levF
 rw[if_neg (h 0 om_),if_neg (h 1 om_),if_neg (h 2 om_)]
def bkF (key:List UInt8):Nat:=(textF key%8).toNat
theorem bkF_lt (key:List UInt8):bkF key<8:=by unfold bkF;omega
theorem level_c (key:List UInt8)(hl:key.length≤100000):Rz Tryz.prog 192 [str key] (.int .i64 (levF key:Nat)):=by
 intro w
 refine Cb_ Tryz.func192 rfl Tryz.ntmps192<|pA_ 8 ?_
 refine Le (Cz_ (text_c key hl)) fun _ _=>pA_ 15 ?_
 refine loopA (γ:=Nat) (fun k=>[(3,.int .u32 (textF key)),(4,.int .i64 ((1+k:Nat):Int)),(8,.int .i64 (k:Nat))]) (fun _=>[]) (fun k=>k≤3∧∀j:Nat,j<k→lvB (textF key) j≠0) (fun k=>3-k) (0) ⟨by omega,fun j hj=>by omega⟩ fun k=>?_
 rintro⟨hk1,hk2⟩
 refine pA_ 6 ?_
 refine Cd_ rfl (fun h9=>?_) fun h9=>?_
 ·refine pA_ 16 ?_
  refine Lv (Val.shr rfl rfl om_)<|Lv (Val.and rfl rfl)<|LW.re 15 (.int .u32 (lvB (textF key) k)) rfl (by rfl)<|pA_ 3 ?_
  refine Cd_ rfl (fun h16=>?_) fun h16=>?_
  ·have h16:lvB (textF key) k=0:=h16
   refine pA_ 15 ?_
   rw[lev_at om_ hk2 h16]
   exact fb_
  ·have h16:lvB (textF key) k≠0:=h16
   refine pA_ 5 ?_
   refine LW.re 18 (.int .i64 ((1+(k+1):Nat):Int)) rfl (by congr 1)<|pA_ 8 ?_
   refine PQ.round (k+1) ⟨by omega,fun j hj=>by
    rcases Nat.lt_or_ge j k with h|h
    ·exact hk2 j h
    ·have e:j=k:=by omega
     rw[e];exact h16⟩ om_ (by repeat(first|exact trivial|refine⟨rfl,?_⟩)) pk_
 ·refine pA_ 13 ?_
  have hk9:k=3:=by omega
  subst hk9
  rw[lev_end hk2]
  exact fb_
theorem bucket_c (key:List UInt8)(hl:key.length≤100000):Rz Tryz.prog 166 [str key] (.int .i64 (bkF key:Nat)):=by
 intro w
 have htr:=text_rng key
 refine Cb_ Tryz.func166 rfl Tryz.ntmps166<|pA_ 8 ?_
 refine Le (Cz_ (text_c key hl)) fun _ _=>Lv (Val.rem rfl rfl om_)<|pA_ 6 ?_
 have e8:IntKind.i64.wrap ((textF key).tmod 8)=((bkF key:Nat):Int):=by
  unfold bkF
  rw[Int.tmod_eq_emod_of_nonneg om_,IntWalk.i64_in _ om_]
  omega
 intro w' hw;exact⟨by first|rw[e8]|rw[← e8],hw.below⟩
def setL (l:List Lk)(x:Lk):List Lk:=if hasF l x.key=true then l.set (posF l x.key) x else insL l (posF l x.key) x
theorem setL_len (l:List Lk)(x:Lk):(setL l x).length≤l.length+1:=by
 unfold setL
 split
 ·rw[List.length_set];omega
 ·rw[insL_len _ _ _ (posF_le _ _)];omega
abbrev LvO:=List Lk×V.OwnO
def lvOk (p:LvO):Prop:=ownOk 5 p.1.length (p.1.flatMap lkC) p.2
def lvM (p:LvO):V.Seg:=ownG 108 (p.1.flatMap lkC) p.2
def odC (Lv:List LvO):List Value:=Lv.map fun p=>ownV p.1.length p.2
def odM (Lv:List LvO):V.Seg:=Lv.flatMap lvM
abbrev odS (ob:Nat)(Lv:List LvO):Sg:=[[(ob,.cells (odC Lv).toArray 203 (0,0))],odM Lv]
def odOk (Lv:List LvO):Prop:=Lv.length=4∧∀p∈Lv,lvOk p∧p.1.length≤900
theorem odM_at {Lv:List LvO}{i:Nat}{p:LvO}(h:Lv[i]? =some p):(odM Lv).Perm (lvM p++odM (Lv.eraseIdx i)):=by
 obtain⟨hi,hv⟩:=List.getElem?_eq_some_iff.1 h
 unfold odM
 have e1:Lv=Lv.take i++p::Lv.drop (i+1):=by
  have h8:=List.take_append_drop i Lv
  rw[List.drop_eq_getElem_cons hi,hv] at h8
  exact h8.symm
 have e2:Lv.eraseIdx i=Lv.take i++Lv.drop (i+1):=List.eraseIdx_eq_take_drop_succ ..
 rw[e2]
 conv=>lhs;rw[e1]
 simp only[List.flatMap_append,List.flatMap_cons]
 exact List.perm_append_comm_assoc ..
theorem odM_set {Lv:List LvO}{i:Nat}{p q:LvO}(h:Lv[i]? =some p):(odM (Lv.set i q)).Perm (lvM q++odM (Lv.eraseIdx i)):=by
 have hi:=(List.getElem?_eq_some_iff.1 h).1
 have h2:=odM_at (Lv:=Lv.set i q) (i:=i) (p:=q) (List.getElem?_set_self hi)
 have e:(Lv.set i q).eraseIdx i=Lv.eraseIdx i:=by
  rw[List.eraseIdx_eq_take_drop_succ,List.eraseIdx_eq_take_drop_succ,List.take_set_of_le om_,List.drop_set_of_lt om_]
 rw[e] at h2
 exact h2
end
end G
end Go.Proofs.YtjidffamcdcecaaGreat
namespace Go.Proofs.YtjidffamcdcecaaGreat.V
open Go Go.RowKit
set_option linter.unusedVariables false
section
variable {P:Program}{n:Nat}{B:Base}{Q:Exit→Act→World→Prop}{ks:Ks}{sg:Sg}{ops:Array Oper}
theorem RW.batchY {S:Sg}{F:Nat}{L:Array Bool}{α:Type}{φ:α→Prop}{v:α→Value}{sg':α→Sg}(rem:List Nat)(ix dx:Nat)(items:List It)(fu:Nat)(hF:F=fu+(items.length+1))(hb:batB ops L rem=true)(hx1:Nat.blt dx n=true)(hx2:(ks.all fun y=> !(Nat.beq y.1 dx))=true)(hk1:(items.all fun x=>Nat.blt x.2.1 n)=true)(hk2:(items.all fun x=>(ks.all fun y=> !(Nat.beq y.1 x.2.1)))=true)(hR:(rem.isPerm (ix::items.map (·.1)))=true)(hk3:(ix::items.map (·.1)).Nodup)(hk4:(dx::items.map (·.2.1)).Nodup)
 (hX:∃o,ops[ix]? =some o∧gd ops ks o.guard=some true∧o.dst=some dx∧Eff P n B o ks sg φ v sg')(hop:Bop P n B ops ks sg items)(hop':∀x,φ x→Bop P n B ops ks (sg' x) items)(hS:∃r,Pick S sg r)(hS':∀x,φ x→∃r,Pick S (sg' x) r)
 (h:∀x,φ x→RW P n B ops Q S fu (LS L rem []) (pushAll items ((dx,v x)::ks)) (sg' x)):RW P n B ops Q S F L ks sg:=by
 subst hF
 have hR:=List.isPerm_iff.1 hR
 intro a w ha hw hS0
 obtain⟨hix,hk3'⟩:=List.nodup_cons.1 hk3
 obtain⟨hdx,hk4'⟩:=List.nodup_cons.1 hk4
 have key:∀k (sub:List Nat),sub.length=k→List.Sublist sub rem→∀a w,Fr n ks a→(∀x∈items,x.1∉sub→a.tmps[x.2.1]? =some x.2.2)→(ix∈sub→Hp B sg w)→(ix∉sub→∃x,φ x∧a.tmps[dx]? =some (v x)∧Hp B (sg' x) w)→Hp B S w→
  wpAnyH P .any ops Q (Hp B S) (fu+k) (LS L rem sub) a w:=by
  intro k
  induction k with
  |zero=>
   intro sub hl hs a w ha hd hw1 hw2 hS1
   obtain rfl:sub=[]:=List.length_eq_zero_iff.1 hl
   obtain⟨x,hx,hxa,hxw⟩:=hw2 (by simp)
   refine h x hx a w ⟨ha.defers,ha.size,fun j u hj=>?_⟩ hxw hS1
   rcases look_pushAll hj with⟨y,hy,rfl,rfl⟩|hj
   ·exact hd y hy (by simp)
   ·simp only[look] at hj
    by_cases e:dx=j
    ·subst e
     simp at hj
     rw[← hj];exact hxa
    ·rw[nbeq e] at hj
     exact ha.at_ j u hj
  |succ k ih=>
   intro sub hl hs a w ha hd hw1 hw2 hS1
   have hne:sub≠[]:=by rintro rfl;simp at hl
   have hnd:sub.Nodup:=hs.nodup (hR.nodup_iff.2 hk3)
   have hr:Region.ready .any ops (LS L rem sub)=sub:=by
    have h1:=List.all_eq_true.1 hb sub (mem_subs hs)
    simp only[Bool.or_eq_true,List.isEmpty_iff,beq_iff_eq] at h1
    exact h1.resolve_left hne
   refine wpAnyH_all hr hne fun i hi=>?_
   have hir:=hs.subset hi
   have hlen:(sub.erase i).length=k:=by rw[List.length_erase_of_mem hi];omega
   have hsub:List.Sublist (sub.erase i) rem:=(List.erase_sublist ..).trans hs
   by_cases hii:i=ix
   ·subst hii
    obtain⟨o,ho,hg,hdst,he⟩:=hX
    unfold wpOp
    simp only[ho]
    rw[if_pos (wanted_gd ha hg)]
    refine .inl (he a w _ _ ha (hw1 hi) fun x w' hx hw'=>?_)
    obtain⟨r,hp⟩:=hS' x hx
    refine⟨hw'.pick hp,?_⟩
    rw[LS_set hi hir hnd,hdst]
    refine ih (sub.erase i) hlen hsub _ w' (ha.new hx1 hx2) (fun y hy hyn=>?_) (fun h5=>absurd h5 (hnd.not_mem_erase)) (fun _=>⟨x,hx,?_,hw'⟩) (hw'.pick hp)
    ·have hyi:y.1≠i:=by rintro rfl;exact hix (List.mem_map_of_mem (f:=fun z:It=>z.1) hy)
     have hyd:y.2.1≠dx:=by rintro e;exact hdx (e▸List.mem_map_of_mem (f:=fun z:It=>z.2.1) hy)
     show(a.tmps.setIfInBounds dx (v x))[y.2.1]? =some y.2.2
     rw[Array.getElem?_setIfInBounds_ne (Ne.symm hyd)]
     exact hd y hy (fun h5=>hyn ((List.mem_erase_of_ne hyi).2 h5))
    ·have hlt:dx<n:=by simpa[Nat.blt_eq] using hx1
     show(a.tmps.setIfInBounds dx (v x))[dx]? =some (v x)
     rw[Array.getElem?_setIfInBounds_self_of_lt (by rw[ha.size];exact hlt)]
   ·have hir2:i∈items.map (·.1):=by
     rcases List.mem_cons.1 (hR.mem_iff.1 hir) with h5|h5
     ·exact absurd h5 hii
     ·exact h5
    obtain⟨x,hx,rfl⟩:=List.mem_map.1 hir2
    have hnx:x.2.1≠dx:=by rintro e;exact hdx (e▸List.mem_map_of_mem (f:=fun z:It=>z.2.1) hx)
    have h1:Nat.blt x.2.1 n=true:=List.all_eq_true.1 hk1 x hx
    have h2:=List.all_eq_true.1 hk2 x hx
    have rest:∀w',∀sgx:Sg,Hp B sgx w'→(∃r,Pick S sgx r)→(ix∈sub→Hp B sg w')→(ix∉sub→∃y,φ y∧a.tmps[dx]? =some (v y)∧Hp B (sg' y) w')→wpAnyH P .any ops Q (Hp B S) (fu+k) (LS L rem (sub.erase x.1)) (a.put (some x.2.1) x.2.2) w':=fun w' sgx hwx hpx hA hB=>by
     obtain⟨r,hp⟩:=hpx
     refine ih (sub.erase x.1) hlen hsub _ w' (ha.new h1 h2) (fun y hy hyn=>?_) (fun h5=>hA (List.mem_of_mem_erase h5)) (fun h5=>?_) (hwx.pick hp)
     ·by_cases e:y.1=x.1
      ·obtain rfl:=inj_fst hk3' hy hx e
       have hlt:y.2.1<n:=by simpa[Nat.blt_eq] using h1
       show(a.tmps.setIfInBounds y.2.1 y.2.2)[y.2.1]? =some y.2.2
       rw[Array.getElem?_setIfInBounds_self_of_lt (by rw[ha.size];exact hlt)]
      ·have hyn2:y.1∉sub:=fun h5=>hyn ((List.mem_erase_of_ne e).2 h5)
       have h6:y.2.1≠x.2.1:=fun h7=>e (by rw[inj_snd hk4' hy hx h7])
       show(a.tmps.setIfInBounds x.2.1 x.2.2)[y.2.1]? =some y.2.2
       rw[Array.getElem?_setIfInBounds_ne (Ne.symm h6)]
       exact hd y hy hyn2
     ·have h6:ix∉sub:=fun h7=>h5 ((List.mem_erase_of_ne (Ne.symm hii)).2 h7)
      obtain⟨y,hy,hya,hyw⟩:=hB h6
      refine⟨y,hy,?_,hyw⟩
      show(a.tmps.setIfInBounds x.2.1 x.2.2)[dx]? =some (v y)
      rw[Array.getElem?_setIfInBounds_ne hnx]
      exact hya
    by_cases hin:ix∈sub
    ·obtain⟨o,ho,hg,hdst,he⟩:=hop.at hx
     unfold wpOp
     simp only[ho]
     rw[if_pos (wanted_gd ha hg)]
     refine .inl (he a w _ _ ha (hw1 hin) fun _ w' _ hw'=>?_)
     obtain⟨r,hp⟩:=hS
     refine⟨hw'.pick hp,?_⟩
     rw[LS_set hi hir hnd,hdst]
     exact rest w' sg hw' ⟨r,hp⟩ (fun _=>hw') (fun h5=>absurd hin h5)
    ·obtain⟨y,hy,hya,hyw⟩:=hw2 hin
     obtain⟨o,ho,hg,hdst,he⟩:=(hop' y hy).at hx
     unfold wpOp
     simp only[ho]
     rw[if_pos (wanted_gd ha hg)]
     refine .inl (he a w _ _ ha hyw fun _ w' _ hw'=>?_)
     obtain⟨r,hp⟩:=hS' y hy
     refine⟨hw'.pick hp,?_⟩
     rw[LS_set hi hir hnd,hdst]
     exact rest w' (sg' y) hw' ⟨r,hp⟩ (fun h5=>absurd h5 hin) (fun _=>⟨y,hy,hya,hw'⟩)
 have h0:=key (items.length+1) rem (by rw[hR.length_eq];simp) (List.Sublist.refl _) a w ha (fun x hx hxn=>absurd (hR.mem_iff.2 (List.mem_cons_of_mem _ (List.mem_map_of_mem hx))) hxn) (fun _=>hw) (fun h5=>absurd (hR.mem_iff.2 (List.mem_cons_self ..)) h5) hS0
 rwa [LS_self] at h0
end
end Go.Proofs.YtjidffamcdcecaaGreat.V
namespace Go.Proofs.YtjidffamcdcecaaGreat
open Go Go.RowKit V
set_option linter.unusedVariables false
set_option maxRecDepth 100000
set_option maxHeartbeats 1000000
namespace G
section
attribute [local irreducible] V.CW V.LW V.QW V.RW V.PQ V.Val V.Eff V.Qcall
open V (str byC ownV ownG ownS ownOk)
instance:Cal Tryz.prog 192:=⟨Tryz.call192⟩
instance:Cal Tryz.prog 193:=⟨Tryz.call193⟩
instance:Cal Tryz.prog 194:=⟨Tryz.call194⟩
theorem odC_at {Lz:List LvO}{i:Nat}{p:LvO}(h:Lz[i]? =some p):(odC Lz)[0+i*1]? =some (ownV p.1.length p.2):=by
 unfold odC
 rw[Nat.zero_add,Nat.mul_one,List.getElem?_map,h]
 rfl
theorem odC_set {Lz:List LvO}{i:Nat}(q:LvO):(odC Lz).set (0+i*1) (ownV q.1.length q.2)=odC (Lz.set i q):=by
 unfold odC
 rw[Nat.zero_add,Nat.mul_one,List.map_set]
def setTo (D:List (List Lk))(x:Lk)(k:Nat):List (List Lk):=D.mapIdx fun i l=>if i<k then setL l x else l
theorem setTo_0 (D:List (List Lk))(x:Lk):setTo D x 0=D:=by
 apply List.ext_getElem?
 intro j
 unfold setTo
 rw[List.getElem?_mapIdx]
 cases D[j]? <;>simp
theorem setTo_succ {D:List (List Lk)}{x:Lk}{k:Nat}{l:List Lk}(h:D[k]? =some l):(setTo D x k).set k (setL l x)=setTo D x (k+1):=by
 apply List.ext_getElem?
 intro j
 unfold setTo
 rw[List.getElem?_set,List.getElem?_mapIdx,List.getElem?_mapIdx]
 have hk:=(List.getElem?_eq_some_iff.1 h).1
 by_cases e:k=j
 ·subst e
  rw[if_pos rfl,if_pos (by simpa using hk),h]
  simp
 ·rw[if_neg e]
  congr 1
  funext l
  by_cases h1:j<k
  ·rw[if_pos h1,if_pos om_]
  ·rw[if_neg h1,if_neg om_]
theorem setTo_at {D:List (List Lk)}{x:Lk}{k:Nat}{l:List Lk}(h:D[k]? =some l):(setTo D x k)[k]? =some l:=by
 unfold setTo
 rw[List.getElem?_mapIdx,h]
 simp
def oset (D:List (List Lk))(x:Lk):List (List Lk):=setTo D x (levF x.key)
def ohad (D:List (List Lk))(x:Lk):Bool:=((D[levF x.key-1]?).map fun l=>hasF l x.key).getD false
theorem odM_perm {Lz:List LvO}{i:Nat}{lp:List Lk}{yp:V.OwnO}(h:Lz[i]? =some (lp,yp))(a b:V.Seg):([a,odM Lz,b]:V.Sg).flatten.Perm ([a,ownG 108 (lp.flatMap lkC) yp,odM (Lz.eraseIdx i),b]:V.Sg).flatten:=by
 have h8:=odM_at h
 simp only[List.flatten_cons,List.flatten_nil,List.append_nil,← List.append_assoc]
 refine List.Perm.append_right _ ?_
 rw[List.append_assoc]
 exact List.Perm.append_left _ h8
theorem odM_perm3 {Lz:List LvO}{i:Nat}{p:LvO}{lp:List Lk}{yp:V.OwnO}(h:Lz[i]? =some p)(a b c:V.Seg)(hc:c=ownG 108 (lp.flatMap lkC) yp):([a,c,odM (Lz.eraseIdx i),b]:V.Sg).flatten.Perm ([a,odM (Lz.set i (lp,yp)),b]:V.Sg).flatten:=by
 have h8:=odM_set (q:=(lp,yp)) h
 subst hc
 simp only[List.flatten_cons,List.flatten_nil,List.append_nil,← List.append_assoc]
 refine List.Perm.append_right _ ?_
 rw[List.append_assoc]
 exact List.Perm.append_left _ h8.symm
theorem oset_c (ob:Nat)(Lz:List LvO)(x:Lk)(hO:odOk Lz)(hx:x.key.length≤100000):Mo Tryz.prog 152 [.pointer (some ⟨ob,0,none⟩),.agg (lkC x).toArray] (odS ob Lz) (fun Lv2:List LvO=>(Lv2.map Prod.fst=oset (Lz.map Prod.fst) x)∧Lv2.length=4∧∀p∈Lv2,lvOk p) (fun _=> .bool (ohad (Lz.map Prod.fst) x)) (fun Lv2=>odS ob Lv2):=by
 intro w hs
 have hlv:=levF_rng x.key
 have hO4:=hO.1
 refine Ca_ Tryz.func152 rfl Tryz.ntmps152 hs<|Sq<|Rg<|Le XA fun b3 _=>pA_ 22 ?_
 refine Lv (Ld (v:=str x.key))<|Le (Cz_ (level_c x.key hx)) fun _ _=>pA_ 4 ?_
 refine loopA (γ:=Nat×List LvO×Bool) (fun k=>[(0,.pointer (some ⟨ob,0,none⟩)),(3,.pointer (some ⟨b3,0,none⟩)),(5,.bool k.2.2),(13,.int .i64 (levF x.key:Nat)),(14,.int .i64 (k.1:Nat))]) (fun k=>[[(ob,.cells (odC k.2.1).toArray 203 (0,0))],odM k.2.1,[(b3,.cells (lkC x).toArray 108 (0,0))]]) (fun k=>k.1≤levF x.key∧k.2.1.map Prod.fst=setTo (Lz.map Prod.fst) x k.1∧k.2.1.length=4∧(∀p∈k.2.1,lvOk p)∧(1≤k.1→k.2.2=((((Lz.map Prod.fst)[k.1-1]?).map fun l=>hasF l x.key).getD false))) (fun k=>levF x.key-k.1) ((0,Lz,false)) ⟨Nat.zero_le _,by rw[setTo_0],hO.1,fun p hp=>(hO.2 p hp).1,fun h=>absurd h (by simp)⟩ fun k=>?_
 rintro⟨hk1,hk2,hk3,hk4,hk5⟩
 refine pA_ 6 ?_
 refine Cd_ rfl (fun h15=>?_) fun h15=>?_
 ·refine pA_ 11 ?_
  obtain⟨p,hp⟩:∃p,k.2.1[k.1]? =some p:=⟨k.2.1[k.1]'om_,by simp⟩
  obtain⟨lp,yp⟩:=p
  have hpk:=hk4 _ (List.mem_of_getElem? hp)
  have hD:(Lz.map Prod.fst)[k.1]? =some lp:=by
   obtain⟨l,hl⟩:∃l,(Lz.map Prod.fst)[k.1]? =some l:=⟨(Lz.map Prod.fst)[k.1]'(by rw[List.length_map,hO.1];omega),List.getElem?_eq_getElem _⟩
   have h8:=setTo_at (x:=x) hl
   rw[← hk2,List.getElem?_map,hp] at h8
   rw[hl,← h8];rfl
  have hlp:lp.length≤900:=by
   rw[List.getElem?_map,Option.map_eq_some_iff] at hD
   obtain⟨q,hq,rfl⟩:=hD
   exact(hO.2 q (List.mem_of_getElem? hq)).2
  have hst:=setTo_succ (x:=x) hD
  obtain⟨ps,cs,hvs,_,hss⟩:=own_slg (e:=108) lkC_len lp yp hpk
  refine V.CW.perm (sg':=[[(ob,.cells (odC k.2.1).toArray 203 (0,0))],ownG 108 (lp.flatMap lkC) yp,odM (k.2.1.eraseIdx k.1),[(b3,.cells (lkC x).toArray 108 (0,0))]]) ?_ (odM_perm hp _ _)
  refine Qt<|pA_ 4 ?_
  refine Qv (Val.indexAddrA (i:=k.1) rfl rfl Tryz.underlying201 Tryz.sizeOf104 om_)<|Qv (Ld (v:=ownV lp.length yp) (hl:=odC_at hp))<|QW.re 23 (.slice ps lp.length cs) rfl hvs<|Qv (Fa 0 9)<|Qv (Ld (v:=str x.key))<|Qc (QV fun w hw=>find_o lp ps cs x.key om_ w (hss hw pk_))<|pA_ 18 ?_
  refine Cd_ rfl (fun h30=>?_) fun h30=>?_
  ·obtain⟨g,rest,cap,rfl⟩:∃g r c,yp=some (g,r,c):=by
    rcases yp with _|⟨g,r,c⟩
    ·have h8:lp.length=0:=hpk.2
     unfold hasF at h30;rw[Bool.and_eq_true,decide_eq_true_eq] at h30;omega
    ·exact⟨g,r,c,rfl⟩
   have hpl:posF lp x.key<lp.length:=by unfold hasF at h30;rw[Bool.and_eq_true,decide_eq_true_eq] at h30;exact h30.1
   obtain⟨z,hz⟩:∃z,lp[posF lp x.key]? =some z:=⟨lp[posF lp x.key],by simp⟩
   have hsl:setL lp x=lp.set (posF lp x.key) x:=by unfold setL;rw[if_pos h30]
   obtain⟨hc1,hc2⟩:=own_cap hpk
   have hok2:lvOk (setL lp x,some (g,rest,cap)):=by
    rw[hsl]
    exact⟨by rw[V.flatMap_len lkC_len],by rw[V.flatMap_len lkC_len,List.length_set];exact hc2⟩
   have hsg:([(g,.cells ((lp.set (posF lp x.key) x).flatMap lkC++rest).toArray 108 (0,0))]:V.Seg)=ownG 108 ((setL lp x).flatMap lkC) (some (g,rest,cap)):=by rw[hsl,V.ownG_some]
   have hod:odC k.2.1=odC (k.2.1.set k.1 (setL lp x,some (g,rest,cap))):=by
    unfold odC
    rw[List.map_set]
    have h8:(k.2.1.map fun p:LvO=>ownV p.1.length p.2)[k.1]? =some (ownV lp.length (some (g,rest,cap))):=by rw[List.getElem?_map,hp];rfl
    obtain⟨h9,h7⟩:=List.getElem?_eq_some_iff.1 h8
    rw[show ownV (setL lp x).length (some (g,rest,cap))=ownV lp.length (some (g,rest,cap)) by rw[hsl,List.length_set],← h7,List.set_getElem_self]
   refine Dr ([[(ob,.cells (odC k.2.1).toArray 203 (0,0))],[(b3,.cells (lkC x).toArray 108 (0,0))]])<|pR_ [0,1,2,3] ?_
   refine Rv 4 rfl (Val.indexAddrA (i:=k.1) rfl rfl Tryz.underlying201 Tryz.sizeOf104 om_)<|Rv 5 rfl (Ld (v:= .slice (some ⟨g,0,none⟩) lp.length cap) (hl:=odC_at hp))<|Rv 6 rfl Mv<|Rv 7 rfl (Lw (l:=lkC x))<|Rv 8 rfl (Val.indexAddrN (i:=posF lp x.key) rfl rfl Tryz.underlying104 Tryz.sizeOf108 hpl)<|ReN 9 rfl (Eff.storeA (cs:=lkC x) (l:=lp.flatMap lkC++rest) (l':=(lp.set (posF lp x.key) x).flatMap lkC++rest) rfl rfl up_ (by have h8:=splice_in lkC_len hz 0 (lkC x) (y:=x) (by rfl) (by simp[lkC_len]) rest;simpa using h8) (by rw[List.length_append,V.flatMap_len lkC_len];have:=Nat.mul_le_mul_right 5 (show posF lp x.key+1≤lp.length from hpl);simp[lkC];omega) Tryz.sizeOf108 (by rfl)) fun _ _=>pA_ 7 ?_
   rw[hod]
   refine V.PQ.segs (ss:=[[(ob,.cells (odC (k.2.1.set k.1 (setL lp x,some (g,rest,cap)))).toArray 203 (0,0))],ownG 108 ((setL lp x).flatMap lkC) (some (g,rest,cap)),odM (k.2.1.eraseIdx k.1),[(b3,.cells (lkC x).toArray 108 (0,0))]]) ?_ (by rw[← hsg];repeat(first|exact .nil|apply Pick.cons|exact .here|apply Ext.there))
   refine V.PQ.perm (sg':=[[(ob,.cells (odC (k.2.1.set k.1 (setL lp x,some (g,rest,cap)))).toArray 203 (0,0))],odM (k.2.1.set k.1 (setL lp x,some (g,rest,cap))),[(b3,.cells (lkC x).toArray 108 (0,0))]]) ?_ (odM_perm3 hp _ _ _ rfl)
   refine PQ.round ((k.1+1,k.2.1.set k.1 (setL lp x,some (g,rest,cap)),hasF lp x.key)) ⟨by simp only;omega,by simp only;rw[List.map_set,hk2];exact hst,by simp only[List.length_set];exact hk3,fun q hq=>by
    rcases List.mem_or_eq_of_mem_set hq with hq|rfl
    ·exact hk4 q hq
    ·exact hok2,fun _=>by simp only;rw[Nat.add_sub_cancel,hD];rfl⟩ (by simp only;omega) (by exact⟨rfl,rfl,rfl,rfl,rfl,trivial⟩) pk_
  ·have hsl:setL lp x=insL lp (posF lp x.key) x:=by unfold setL;rw[if_neg (by simp[h30])]
   refine Dr ([[(b3,.cells (lkC x).toArray 108 (0,0))]])<|Rv 0 rfl Mv<|Rv 1 rfl Mv<|Rv 2 rfl Mv<|Rv 3 rfl Mv<|Rv 4 rfl Nz<|Rv 5 rfl (Fa 0 201)<|Rv 6 rfl (Val.indexAddrA (i:=k.1) rfl rfl Tryz.underlying201 Tryz.sizeOf104 om_)<|Rv 8 rfl Mv<|Rv 9 rfl (Lw (l:=lkC x))<|Rv 12 rfl Nz<|Rv 13 rfl (Fa 0 201)<|V.RW.batchY [7,10] 10 50 [(7,47,_)] 3 rfl kr_ rfl rfl rfl rfl rfl (by simp) (by simp) ⟨_,rfl,rfl,rfl,Eff.buildSlice (rfl) [_,_,_,_,_] Tryz.underlying104 Tryz.sizeOf108 (by exact Tryz.zeroValue108) rfl rfl rfl rfl (by rfl)⟩ ⟨⟨_,rfl,rfl,rfl,Eff.ofVal (Ld (v:=ownV lp.length yp) (hl:=odC_at hp))⟩,trivial⟩ (fun _ _=>⟨⟨_,rfl,rfl,rfl,Eff.ofVal (Ld (v:=ownV lp.length yp) (hl:=odC_at hp))⟩,trivial⟩) ⟨_,pk_⟩ (fun _ _=>⟨_,pk_⟩) fun b50 _=>Re 11 rfl (CM ([ownG 108 (lp.flatMap lkC) yp]) fun w hw hs0=>insert_c lp yp (posF lp x.key) x b50 1 w hpk om_ (posF_le _ _) hs0 (hw.own _ (show InS (b50,.cells (lkC x).toArray 108 (0,0)) _ from in_).mem) (not_in hw (show Pick [ownG 108 (lp.flatMap lkC) yp] _ _ from pk_) (show InS (b50,.cells (lkC x).toArray 108 (0,0)) _ from in_))) fun y2 hy2=>?_
   rw[← hsl] at hy2⊢
   have hok2:lvOk (setL lp x,y2):=hy2
   refine Rv 14 rfl (Val.indexAddrA (i:=k.1) rfl rfl Tryz.underlying201 Tryz.sizeOf104 om_)<|ReN 15 rfl (Eff.storeX (v:=ownV (setL lp x).length y2) (l:=odC k.2.1) (l':=odC (k.2.1.set k.1 (setL lp x,y2))) rfl rfl (V.ownV_one _ _) up_ (odC_set (setL lp x,y2)) (by unfold odC;rw[List.length_map];omega) Tryz.sizeOf104) fun _ _=>pA_ 7 ?_
   refine V.PQ.segs (ss:=[[(ob,.cells (odC (k.2.1.set k.1 (setL lp x,y2))).toArray 203 (0,0))],ownG 108 ((setL lp x).flatMap lkC) y2,odM (k.2.1.eraseIdx k.1),[(b3,.cells (lkC x).toArray 108 (0,0))]]) ?_ pk_
   refine V.PQ.perm (sg':=[[(ob,.cells (odC (k.2.1.set k.1 (setL lp x,y2))).toArray 203 (0,0))],odM (k.2.1.set k.1 (setL lp x,y2)),[(b3,.cells (lkC x).toArray 108 (0,0))]]) ?_ (odM_perm3 hp _ _ _ rfl)
   refine PQ.round ((k.1+1,k.2.1.set k.1 (setL lp x,y2),hasF lp x.key)) ⟨by simp only;omega,by simp only;rw[List.map_set,hk2];exact hst,by simp only[List.length_set];exact hk3,fun q hq=>by
    rcases List.mem_or_eq_of_mem_set hq with hq|rfl
    ·exact hk4 q hq
    ·exact hok2,fun _=>by simp only;rw[Nat.add_sub_cancel,hD];rfl⟩ (by simp only;omega) (by exact⟨rfl,rfl,rfl,rfl,rfl,trivial⟩) pk_
 ·refine pA_ 13 ?_
  have hk9:k.1=levF x.key:=by omega
  have hfin:k.2.1.map Prod.fst=oset (Lz.map Prod.fst) x:=by unfold oset;rw[hk2,hk9]
  have hhd:k.2.2=ohad (Lz.map Prod.fst) x:=by unfold ohad;rw[← hk9];exact hk5 om_
  rw[← hhd]
  exact fi_ k.2.1 ⟨hfin,hk3,hk4⟩
end
section
attribute [local irreducible] V.CW V.LW V.QW V.RW V.PQ V.Val V.Eff V.Qcall
open V (str byC ownV ownG ownS ownOk)
instance:Cal Tryz.prog 166:=⟨Tryz.call166⟩
instance:Cal Tryz.prog 191:=⟨Tryz.call191⟩
theorem onew_c:Mz Tryz.prog 57 [] (fun b:Nat=>True) (fun b=> .pointer (some ⟨b,0,none⟩)) (fun b=>odS b (List.replicate 4 ([],none))):=by
 intro w
 refine Cb_ Tryz.func57 rfl Tryz.ntmps57<|pA_ 7 ?_
 refine Lv (Bd [_,_,_,_])<|Le XA fun b2 _=>pA_ 5 ?_
 intro w' hw;exact⟨b2,trivial,rfl,hw.perm (.refl _)⟩
def byK (k:List UInt8):ByteArray:=⟨k.toArray⟩
theorem byK_inj {a b:List UInt8}:byK a=byK b↔a=b:=by
 unfold byK
 constructor
 ·intro h
  injection h with h
  simpa using congrArg Array.toList h
 ·rintro rfl;rfl
abbrev LE:=List (Nat×Lk)
def lkW (x:Lk):Value:= .agg (lkC x).toArray
def me (E:LE):ME:=E.map fun e=>(e.1,byK e.2.key,lkW e.2)
def lget (E:LE)(k:List UInt8):Option Lk:=(E.find? fun e=>decide (e.2.key=k)).map (·.2)
def lupd (E:LE)(x:Lk):LE:=match E with
 |[]=>[]
 |e::r=>if e.2.key=x.key then(e.1,x)::r else e::lupd r x
def lput (E:LE)(x:Lk)(c:Nat):LE:=if(lget E x.key).isSome then lupd E x else E++[(c,x)]
def lclk (E:LE)(k:List UInt8)(c:Nat):Nat:=if(lget E k).isSome then c else c+1
theorem lget_cons (e:Nat×Lk)(r:LE)(k:List UInt8):lget (e::r) k=if e.2.key=k then some e.2 else lget r k:=by
 unfold lget
 by_cases h:e.2.key=k
 ·rw[if_pos h,List.find?_cons_of_pos (by simpa using h)];rfl
 ·rw[if_neg h,List.find?_cons_of_neg (by simpa using h)]
theorem mget_me (k:List UInt8):∀E:LE,mget (me E) (byK k)=(lget E k).map lkW
 |[]=>rfl
 |e::r=>by
  have h8:=mget_me k r
  rw[lget_cons]
  show(if byK e.2.key=byK k then some (lkW e.2) else mget (me r) (byK k))=_
  by_cases h:e.2.key=k
  ·rw[if_pos h,if_pos (by rw[h])];rfl
  ·rw[if_neg h,if_neg (fun h9=>h (byK_inj.1 h9)),h8]
theorem mupd_me (x:Lk):∀E:LE,mupd (me E) (byK x.key) (lkW x)=me (lupd E x)
 |[]=>rfl
 |e::r=>by
  have h8:=mupd_me x r
  show(if byK e.2.key=byK x.key then(e.1,byK x.key,lkW x)::me r else(e.1,byK e.2.key,lkW e.2)::mupd (me r) (byK x.key) (lkW x))=me (if e.2.key=x.key then(e.1,x)::r else e::lupd r x)
  by_cases h:e.2.key=x.key
  ·rw[if_pos (by rw[h]),if_pos h];rfl
  ·rw[if_neg (fun h9=>h (byK_inj.1 h9)),if_neg h,h8];rfl
theorem mput_me (E:LE)(x:Lk)(c:Nat):mput (me E) (byK x.key) (lkW x) c=me (lput E x c):=by
 unfold mput lput
 rw[mget_me,mupd_me]
 cases h:lget E x.key with
 |none=>simp[me]
 |some y=>simp
theorem mclk_me (E:LE)(k:List UInt8)(c:Nat):mclk (me E) (byK k) c=lclk E k c:=by
 unfold mclk lclk
 rw[mget_me]
 cases lget E k<;>rfl
abbrev Tbl:=List (LE×Nat)
def tbC (ms:List Nat):List Value:=ms.map fun m=> .map (some m)
def tbM (ms:List Nat)(Tz:Tbl):V.Seg:=List.zipWith (fun m p=>(m,mpO (me p.1) p.2)) ms Tz
abbrev tbS (tb:Nat)(ms:List Nat)(Tz:Tbl):Sg:=[[(tb,.cells (tbC ms).toArray 170 (0,0))],tbM ms Tz]
def tbOk (ms:List Nat)(Tz:Tbl):Prop:=ms.length=8∧Tz.length=8
def tb0:Tbl:=List.replicate 8 ([],0)
def tSet (Tz:Tbl)(x:Lk):Tbl:=match Tz[bkF x.key]? with
 |none=>Tz
 |some p=>Tz.set (bkF x.key) (lput p.1 x p.2,lclk p.1 x.key p.2)
def tGet (Tz:Tbl)(k:List UInt8):Option Lk:=(Tz[bkF k]?).bind fun p=>lget p.1 k
theorem tbC_at {ms:List Nat}{i m:Nat}(h:ms[i]? =some m):(tbC ms)[0+i*1]? =some (.map (some m)):=by
 unfold tbC
 rw[Nat.zero_add,Nat.mul_one,List.getElem?_map,h]
 rfl
theorem tbM_at {ms:List Nat}{Tz:Tbl}{i m:Nat}{p:LE×Nat}(h:ms[i]? =some m)(h2:Tz[i]? =some p):(tbM ms Tz)[i]? =some (m,mpO (me p.1) p.2):=by
 unfold tbM
 rw[List.getElem?_zipWith,h,h2]
theorem tbM_set {ms:List Nat}{Tz:Tbl}{i m:Nat}(p:LE×Nat)(h:ms[i]? =some m):(tbM ms Tz).set i (m,mpO (me p.1) p.2)=tbM ms (Tz.set i p):=by
 unfold tbM
 apply List.ext_getElem?
 intro j
 rw[List.getElem?_set,List.getElem?_zipWith,List.getElem?_zipWith,List.getElem?_set]
 by_cases e:i=j
 ·subst e
  rw[if_pos rfl,if_pos rfl,h,List.length_zipWith]
  have hi:=(List.getElem?_eq_some_iff.1 h).1
  by_cases h3:i<Tz.length
  ·rw[if_pos om_,if_pos h3]
  ·rw[if_neg om_,if_neg h3]
 ·rw[if_neg e,if_neg e]
theorem tSet_len (Tz:Tbl)(x:Lk):(tSet Tz x).length=Tz.length:=by
 unfold tSet
 split
 ·rfl
 ·rw[List.length_set]
theorem tnew_c:Mz Tryz.prog 56 [] (fun p:Nat×List Nat=>p.2.length=8) (fun p=> .pointer (some ⟨p.1,0,none⟩)) (fun p=>tbS p.1 p.2 tb0):=by
 intro w
 refine Cb_ Tryz.func56 rfl Tryz.ntmps56<|pA_ 7 ?_
 refine Lv (Bd [_,_,_,_,_,_,_,_])<|Le XA fun b4 _=>pA_ 10 ?_
 refine CW.loopU 8<|pA_ 20 ?_
 refine Le (Eff.makeMap) fun b10_0 _=>Lv Nz<|Lv (Fa 0 168)<|Lv (Val.indexAddrA (i:=0) rfl rfl Tryz.underlying168 Tryz.sizeOf167 (by decide))<|LeN StS fun _ _=>pA_ 7 ?_
 refine PQ.next<|pA_ 20 ?_
 refine Le (Eff.makeMap) fun b10_1 _=>Lv Nz<|Lv (Fa 0 168)<|Lv (Val.indexAddrA (i:=1) rfl rfl Tryz.underlying168 Tryz.sizeOf167 (by decide))<|LeN StS fun _ _=>pA_ 7 ?_
 refine PQ.next<|pA_ 20 ?_
 refine Le (Eff.makeMap) fun b10_2 _=>Lv Nz<|Lv (Fa 0 168)<|Lv (Val.indexAddrA (i:=2) rfl rfl Tryz.underlying168 Tryz.sizeOf167 (by decide))<|LeN StS fun _ _=>pA_ 7 ?_
 refine PQ.next<|pA_ 20 ?_
 refine Le (Eff.makeMap) fun b10_3 _=>Lv Nz<|Lv (Fa 0 168)<|Lv (Val.indexAddrA (i:=3) rfl rfl Tryz.underlying168 Tryz.sizeOf167 (by decide))<|LeN StS fun _ _=>pA_ 7 ?_
 refine PQ.next<|pA_ 20 ?_
 refine Le (Eff.makeMap) fun b10_4 _=>Lv Nz<|Lv (Fa 0 168)<|Lv (Val.indexAddrA (i:=4) rfl rfl Tryz.underlying168 Tryz.sizeOf167 (by decide))<|LeN StS fun _ _=>pA_ 7 ?_
 refine PQ.next<|pA_ 20 ?_
 refine Le (Eff.makeMap) fun b10_5 _=>Lv Nz<|Lv (Fa 0 168)<|Lv (Val.indexAddrA (i:=5) rfl rfl Tryz.underlying168 Tryz.sizeOf167 (by decide))<|LeN StS fun _ _=>pA_ 7 ?_
 refine PQ.next<|pA_ 20 ?_
 refine Le (Eff.makeMap) ?_
 intro b10_6 _
 refine Lv Nz<|Lv (Fa 0 168)<|Lv (Val.indexAddrA (i:=6) rfl rfl Tryz.underlying168 Tryz.sizeOf167 (by decide))<|LeN StS fun _ _=>pA_ 7 ?_
 refine PQ.next<|pA_ 20 ?_
 refine Le (Eff.makeMap) fun b10_7 _=>Lv Nz<|Lv (Fa 0 168)<|Lv (Val.indexAddrA (i:=7) rfl rfl Tryz.underlying168 Tryz.sizeOf167 (by decide))<|LeN StS fun _ _=>pA_ 7 ?_
 refine PQ.next<|pA_ 20 ?_
 intro w' hw;exact⟨(b4,[b10_0,b10_1,b10_2,b10_3,b10_4,b10_5,b10_6,b10_7]),rfl,rfl,(hw.pick (ss:=[[(b4,.cells [.map (some b10_0),.map (some b10_1),.map (some b10_2),.map (some b10_3),.map (some b10_4),.map (some b10_5),.map (some b10_6),.map (some b10_7)].toArray 170 (0,0))],[(b10_0,mpO [] 0)],[(b10_1,mpO [] 0)],[(b10_2,mpO [] 0)],[(b10_3,mpO [] 0)],[(b10_4,mpO [] 0)],[(b10_5,mpO [] 0)],[(b10_6,mpO [] 0)],[(b10_7,mpO [] 0)]]) pk_).perm (.refl _)⟩
theorem of_c3 (tb:Nat)(ms:List Nat)(Tz:Tbl)(hT:tbOk ms Tz)(key:List UInt8)(hl:key.length≤100000)(m:Nat)(hm:ms[bkF key]? =some m):Rx Tryz.prog 191 [.pointer (some ⟨tb,0,none⟩),str key] (tbS tb ms Tz) (.map (some m)):=by
 intro w hs
 have hbk:=bkF_lt key
 refine Ca_ Tryz.func191 rfl Tryz.ntmps191 hs<|pA_ 16 ?_
 refine Qt<|Qv Mv<|Qv Mv<|Qc (Qz_ (bucket_c key hl))<|Qv Nz<|Qv (Fa 0 168)<|Qv (Val.indexAddrA (i:=bkF key) rfl rfl Tryz.underlying168 Tryz.sizeOf167 om_)<|Qv (Ld (v:= .map (some m)) (hl:=tbC_at hm))<|pA_ 5 ?_
 exact fr_ hs
theorem tset_c (tb:Nat)(ms:List Nat)(Tz:Tbl)(hT:tbOk ms Tz)(x:Lk)(hl:x.key.length≤100000):Mo Tryz.prog 151 [.pointer (some ⟨tb,0,none⟩),.agg (lkC x).toArray] (tbS tb ms Tz) (fun _u:Unit=>True) (fun _=> .bool (tGet Tz x.key).isSome) (fun _=>tbS tb ms (tSet Tz x)):=by
 intro w hs
 have hbk:=bkF_lt x.key
 obtain⟨m,hm⟩:∃m,ms[bkF x.key]? =some m:=⟨ms[bkF x.key]'(by rw[hT.1];omega),by simp⟩
 obtain⟨p,hp⟩:∃p,Tz[bkF x.key]? =some p:=⟨Tz[bkF x.key]'(by rw[hT.2];omega),by simp⟩
 have hg:tGet Tz x.key=lget p.1 x.key:=by unfold tGet;rw[hp];rfl
 refine Ca_ Tryz.func151 rfl Tryz.ntmps151 hs<|Sq<|Rg<|Le XA fun b3 _=>Lv Av<|Nl<|Ps<|Sq<|Rg<|Lv Mv<|Lv (Fa 0 9)<|Lv (Ld (v:=str x.key))<|Le (Cr_ (of_c3 tb ms Tz hT x.key hl m hm)) fun _ _=>Lv Av<|Nl<|Ps<|Sq<|Sq<|Rg<|Lv Mv<|Lv (Val.eqM rfl rfl Tryz.underlying167)<|Nl<|Ps<|Cf<|Sk<|Ps<|Sq<|Rg<|Lv Mv<|Lv (Fa 0 9)<|Lv (Ld (v:=str x.key))<|Lv (Val.lookup rfl rfl Tryz.underlying167 Tryz.underlying9 Tryz.zeroValue108 (by repeat(first|exact InS.nth (tbM_at hm hp)|refine .there ?_)))<|LW.re 18 (.tuple [lkW ((tGet Tz x.key).getD lk0),.bool (tGet Tz x.key).isSome].toArray) rfl (by rw[hg];show Value.tuple [(mget (me p.1) (byK x.key)).getD _,.bool (mget (me p.1) (byK x.key)).isSome].toArray=_;rw[mget_me];cases lget p.1 x.key<;>rfl)<|Lv Mv<|Lv Ex<|Lv Ex<|Le AA fun b6 _=>LeN StW fun _ _=>Lv Av<|Nl<|Ps<|Sq<|Rg<|Lv Mv<|Lv (Fa 0 9)<|Lv (Ld (v:=str x.key))<|Lv (Lw (l:=lkC x))<|LeN (Eff.mapUpdate rfl rfl rfl Tryz.underlying167 Tryz.underlying9 (by repeat(first|exact Upd.nth (tbM_at hm hp)|apply Upd.there))) fun _ _=>Nl<|Ps<|Sq<|Rg<|Lv Mv<|Lv Av<|Nl<|Ps<|Rt<|Rt1 ?_
 have e8:(tbM ms Tz).set (bkF x.key) (m,mpO (mput (me p.1) (byK x.key) (.agg (lkC x).toArray) p.2) (mclk (me p.1) (byK x.key) p.2))=tbM ms (tSet Tz x):=by
  rw[show(Value.agg (lkC x).toArray)=lkW x from rfl,mput_me,mclk_me]
  unfold tSet
  rw[hp]
  exact tbM_set (lput p.1 x p.2,lclk p.1 x.key p.2) hm
 intro w' hw
 refine⟨(),trivial,rfl,?_⟩
 have h9:=hw.pick (ss:=[[(tb,.cells (tbC ms).toArray 170 (0,0))],(tbM ms Tz).set (bkF x.key) (m,mpO (mput (me p.1) (byK x.key) (.agg (lkC x).toArray) p.2) (mclk (me p.1) (byK x.key) p.2))]) pk_
 rw[e8] at h9
 exact h9
end
section
attribute [local irreducible] V.CW V.LW V.QW V.RW V.PQ V.Val V.Eff V.Qcall
open V (str byC ownV ownG ownS ownOk)
namespace Stb
section
variable {α:Type}(key:α→Int)
def Up (l:List α):Prop:=l.Pairwise fun a b=>key a≤key b
def Sta (l l':List α):Prop:=l'.length=l.length∧∀k:Int,l'.filter (fun x=>key x==k)=l.filter (fun x=>key x==k)
variable {key}
theorem Sta.refl (l:List α):Sta key l l:=⟨rfl,fun _=>rfl⟩
theorem Sta.trans {a b c:List α}(h:Sta key a b)(h':Sta key b c):Sta key a c:=⟨h'.1.trans h.1,fun k=>(h'.2 k).trans (h.2 k)⟩
theorem Sta.app {a a' b b':List α}(h:Sta key a a')(h':Sta key b b'):Sta key (a++b) (a'++b'):=⟨by simp[h.1,h'.1],fun k=>by rw[List.filter_append,List.filter_append,h.2,h'.2]⟩
theorem Sta.mem {a a':List α}(h:Sta key a a')(x:α):x∈a'↔x∈a:=by
 have h1:=h.2 (key x)
 constructor
 ·intro hx
  have:x∈a'.filter (fun y=>key y==key x):=List.mem_filter.2 ⟨hx,by simp⟩
  rw[h1] at this
  exact(List.mem_filter.1 this).1
 ·intro hx
  have:x∈a.filter (fun y=>key y==key x):=List.mem_filter.2 ⟨hx,by simp⟩
  rw[← h1] at this
  exact(List.mem_filter.1 this).1
theorem Sta.swap {u v:List α}(h:∀x∈u,∀y∈v,key y<key x):Sta key (u++v) (v++u):=⟨by simp[Nat.add_comm],fun k=>by
 rw[List.filter_append,List.filter_append]
 by_cases hu:∃x∈u,key x=k
 ·obtain⟨x,hx,rfl⟩:=hu
  have:v.filter (fun y=>key y==key x)=[]:=List.filter_eq_nil_iff.2 fun y hy e=>by
   have:=h x hx y hy
   simp at e;omega
  rw[this];simp
 ·have:u.filter (fun y=>key y==k)=[]:=List.filter_eq_nil_iff.2 fun y hy e=>hu ⟨y,hy,by simpa using e⟩
  rw[this];simp⟩
theorem Up.app {a b:List α}(ha:Up key a)(hb:Up key b)(h:∀x∈a,∀y∈b,key x≤key y):Up key (a++b):=List.pairwise_append.2 ⟨ha,hb,h⟩
theorem Up.of_app {a b:List α}(h:Up key (a++b)):Up key a∧Up key b∧∀x∈a,∀y∈b,key x≤key y:=List.pairwise_append.1 h
theorem up_nil:Up key ([]:List α):=List.Pairwise.nil
theorem Up.get {l:List α}(h:Up key l){i j:Nat}{x y:α}(hx:l[i]? =some x)(hy:l[j]? =some y)(hij:i≤j):key x≤key y:=by
 rcases Nat.lt_or_ge i j with h1|h1
 ·obtain⟨hi,rfl⟩:=List.getElem?_eq_some_iff.1 hx
  obtain⟨hj,rfl⟩:=List.getElem?_eq_some_iff.1 hy
  exact List.pairwise_iff_getElem.1 h i j hi hj h1
 ·obtain rfl:i=j:=by omega
  rw[hx] at hy;cases hy;exact Int.le_refl _
theorem mem_take {l:List α}{i:Nat}{y:α}(h:y∈l.take i):∃j,j<i∧l[j]? =some y:=by
 obtain⟨j,hj⟩:=List.getElem?_of_mem h
 rw[List.getElem?_take] at hj
 split at hj
 ·exact⟨j,by assumption,hj⟩
 ·cases hj
theorem mem_drop {l:List α}{i:Nat}{y:α}(h:y∈l.drop i):∃j,i≤j∧l[j]? =some y:=by
 obtain⟨j,hj⟩:=List.getElem?_of_mem h
 rw[List.getElem?_drop] at hj
 exact⟨i+j,by omega,hj⟩
theorem at_app (p:List α)(u:α)(q:List α)(i:Nat)(hi:i=p.length):(p++u::q)[i]? =some u:=by subst hi;simp
theorem swp (p:List α)(u:α)(z:List α)(v:α)(q:List α)(i j:Nat)(hi:i=p.length)(hj:j=p.length+1+z.length):((p++u::(z++v::q)).set i v).set j u=p++v::(z++u::q):=by
 subst hi;subst hj
 rw[List.set_append_right _ _ om_,Nat.sub_self,List.set_cons_zero,List.set_append_right _ _ om_]
 have:p.length+1+z.length-p.length=z.length+1:=by omega
 rw[this,List.set_cons_succ,List.set_append_right _ _ om_,Nat.sub_self,List.set_cons_zero]
theorem swp' (p:List α)(u:α)(z:List α)(v:α)(q:List α)(i j:Nat)(hi:i=p.length)(hj:j=p.length+1+z.length):((p++u::(z++v::q)).set j u).set i v=p++v::(z++u::q):=by
 rw[List.set_comm _ _ om_];exact swp p u z v q i j hi hj
theorem take_snoc {l:List α}{i:Nat}{x:α}(h:l[i]? =some x):l.take (i+1)=l.take i++[x]:=by rw[List.take_add_one,h];rfl
theorem drop_cons {l:List α}{i:Nat}{x:α}(h:l[i]? =some x):l.drop i=x::l.drop (i+1):=by
 obtain⟨hi,rfl⟩:=List.getElem?_eq_some_iff.1 h
 exact List.drop_eq_getElem_cons hi
theorem ins_sta (l:List α)(t:Nat)(x:α)(h:∀y∈l.drop t,key x<key y):Sta key (l++[x]) (l.take t++x::l.drop t):=by
 have h1:Sta key (l.take t++(l.drop t++[x])) (l.take t++([x]++l.drop t)):=(Sta.refl _).app (Sta.swap (fun y hy z hz=>by rw[List.mem_singleton] at hz;subst hz;exact h y hy))
 rw[← List.append_assoc,List.take_append_drop] at h1
 simpa using h1
theorem ins_up {l:List α}(hl:Up key l)(t:Nat)(x:α)(h:∀y∈l.drop t,key x≤key y)(h':∀y∈l.take t,key y≤key x):Up key (l.take t++x::l.drop t):=by
 have h0:=hl
 rw[← List.take_append_drop t l] at h0
 obtain⟨a,b,c⟩:=h0.of_app
 refine a.app (List.pairwise_cons.2 ⟨h,b⟩) fun y hy z hz=>?_
 rcases List.mem_cons.1 hz with rfl|hz
 ·exact h' y hy
 ·exact c y hy z hz
theorem ins_sta' (l:List α)(t:Nat)(x:α)(h:∀y∈l.take t,key y<key x):Sta key ([x]++l) (l.take t++x::l.drop t):=by
 have h1:Sta key (([x]++l.take t)++l.drop t) ((l.take t++[x])++l.drop t):=(Sta.swap (fun y hy z hz=>by rw[List.mem_singleton] at hy;subst hy;exact h z hz)).app (Sta.refl _)
 rw[List.append_assoc,List.take_append_drop] at h1
 simpa using h1
def Bl (key:α→Int)(z:Nat)(l:List α):Prop:=∃(cs:List (List α)) (t:List α),l=cs.flatten++t∧(∀c∈cs,Up key c∧c.length=z)∧Up key t∧t.length<z
theorem Bl.whole {z:Nat}{l:List α}(h:Bl key z l)(hz:l.length≤z)(h0:0<z):Up key l:=by
 obtain⟨cs,t,rfl,hc,ht,hl⟩:=h
 match cs,hc with
 |[],_=>simpa using ht
 |[c],hc=>
  have h1:=(hc c (by simp)).2
  simp at hz
  have:t=[]:=List.length_eq_zero_iff.1 om_
  subst this
  simpa using(hc c (by simp)).1
 |c::d::cs,hc=>
  have h1:=(hc c (by simp)).2
  have h2:=(hc d (by simp)).2
  simp at hz
  omega
theorem sym_core {X A B Y:List α}(hA:Up key A)(hB:Up key B){a m b s n lo hi mid:Nat}(ha:X.length=a)(hm:a+A.length=m)(hb:m+B.length=b)(hmid:mid=(a+b)/2)(hn:n=mid+m)
 (hlo:lo=if mid<m then n-b else a)(hhi:hi=if mid<m then mid else m)(h1:lo≤s)(h2:s≤hi)
 (hl:s=lo∨∃u v,(X++(A++(B++Y)))[s-1]? =some u∧(X++(A++(B++Y)))[n-s]? =some v∧key u≤key v)
 (hr:s=hi∨∃u v,(X++(A++(B++Y)))[s]? =some u∧(X++(A++(B++Y)))[n-1-s]? =some v∧key v<key u):
 ∃A1 A2 B1 B2:List α,A=A1++A2∧B=B1++B2∧s=a+A1.length∧n-s=m+B1.length∧s≤n∧mid=a+A1.length+B1.length∧(∀x∈A2,∀y∈B1,key y<key x)∧(∀x∈A1,∀y∈B2,key x≤key y):=by
 subst ha;subst hm;subst hb
 have hb1:X.length≤s∧s≤X.length+A.length∧s≤n∧X.length+A.length≤n-s∧n-s≤X.length+A.length+B.length:=by
  split at hlo<;>split at hhi<;>omega
 obtain⟨g1,g2,g3,g4,g5⟩:=hb1
 have getA:∀i u,X.length≤i→i<X.length+A.length→(X++(A++(B++Y)))[i]? =some u→A[i-X.length]? =some u:=fun i u p q h=>by
  rw[List.getElem?_append_right om_,List.getElem?_append_left om_] at h
  exact h
 have getB:∀i u,X.length+A.length≤i→i<X.length+A.length+B.length→(X++(A++(B++Y)))[i]? =some u→B[i-(X.length+A.length)]? =some u:=fun i u p q h=>by
  rw[List.getElem?_append_right om_,List.getElem?_append_right om_,List.getElem?_append_left om_,Nat.sub_sub] at h
  exact h
 refine⟨A.take (s-X.length),A.drop (s-X.length),B.take (n-s-(X.length+A.length)),B.drop (n-s-(X.length+A.length)),by simp,by simp,by simp;omega,by simp;omega,g3,by simp;omega,fun x hx y hy=>?_,fun x hx y hy=>?_⟩
 ·obtain⟨i,hi1,hi2⟩:=mem_drop hx
  obtain⟨j,hj1,hj2⟩:=mem_take hy
  rcases hr with hr|⟨u,v,hu,hv,huv⟩
  ·have li:=(List.getElem?_eq_some_iff.1 hi2).1
   have lj:=(List.getElem?_eq_some_iff.1 hj2).1
   split at hhi<;>omega
  ·have li:=(List.getElem?_eq_some_iff.1 hi2).1
   have hu':=getA s u g1 om_ hu
   have hv':=getB (n-1-s) v om_ om_ hv
   have e1:=hA.get hu' hi2 om_
   have e2:=hB.get hj2 hv' om_
   omega
 ·obtain⟨i,hi1,hi2⟩:=mem_take hx
  obtain⟨j,hj1,hj2⟩:=mem_drop hy
  rcases hl with hl|⟨u,v,hu,hv,huv⟩
  ·have li:=(List.getElem?_eq_some_iff.1 hi2).1
   have lj:=(List.getElem?_eq_some_iff.1 hj2).1
   split at hlo<;>omega
  ·have lj:=(List.getElem?_eq_some_iff.1 hj2).1
   have hu':=getA (s-1) u om_ om_ hu
   have hv':=getB (n-s) v om_ om_ hv
   have e1:=hA.get hi2 hu' om_
   have e2:=hB.get hv' hj2 om_
   omega
theorem sym_fin {A1 A2 B1 B2 M1 M2:List α}(hA:Up key (A1++A2))(hB:Up key (B1++B2))(h1:∀x∈A2,∀y∈B1,key y<key x)(h2:∀x∈A1,∀y∈B2,key x≤key y)(hM1:Sta key (A1++B1) M1∧Up key M1)(hM2:Sta key (A2++B2) M2∧Up key M2):
 Sta key ((A1++A2)++(B1++B2)) (M1++M2)∧Up key (M1++M2):=by
 constructor
 ·have e1:Sta key (A1++((A2++B1)++B2)) (A1++((B1++A2)++B2)):=(Sta.refl _).app ((Sta.swap h1).app (Sta.refl _))
  have e2:=hM1.1.app hM2.1
  simp only[List.append_assoc] at e1 e2⊢
  exact e1.trans e2
 ·refine hM1.2.app hM2.2 fun x hx y hy=>?_
  have hx':=(hM1.1.mem x).1 hx
  have hy':=(hM2.1.mem y).1 hy
  rcases List.mem_append.1 hx' with hx|hx<;>rcases List.mem_append.1 hy' with hy|hy
  ·exact hA.of_app.2.2 x hx y hy
  ·exact h2 x hx y hy
  ·exact Int.le_of_lt (h1 y hy x hx)
  ·exact hB.of_app.2.2 x hx y hy
end
end Stb
end
section
attribute [local irreducible] V.CW V.LW V.QW V.RW V.PQ V.Val V.Eff V.Qcall
open V (str byC ownV ownG ownS ownOk)
instance:Cal Tryz.prog 277:=⟨Tryz.call277⟩
namespace Stb
def cmpE (a b:Int):Int:=if a<b then -1 else if b<a then 1 else 0
theorem cmpE_lt {a b:Int}:cmpE a b<0↔a<b:=by unfold cmpE;(repeat' split)<;>omega
theorem cmpE_ge {a b:Int}:0≤cmpE a b↔b≤a:=by have:= @cmpE_lt a b;omega
theorem byVer_c (a b:Lk):Rz Tryz.prog 154 [.agg (lkC a).toArray,.agg (lkC b).toArray] (.int .i64 (cmpE a.ver b.ver)):=by
 intro w
 refine Cb_ Tryz.func154 rfl Tryz.ntmps154<|Sq<|Rg<|Le XA fun b2 _=>Le XA fun b3 _=>pA_ 7 ?_
 refine Lv (Ld (v:= .int .u64 a.ver))<|Lv (Fa 2 48)<|Lv (Ld (v:= .int .u64 b.ver))<|pA_ 3 ?_
 refine Cd_ rfl (fun h9=>?_) fun h9=>?_
 ·refine pA_ 8 ?_
  intro w' hw;exact⟨by rw[show cmpE a.ver b.ver= -1 from if_pos h9],hw.below⟩
 ·refine pA_ 6 ?_
  refine Lv (Ld (v:= .int .u64 a.ver))<|Lv (Fa 2 48)<|Lv (Ld (v:= .int .u64 b.ver))<|pA_ 3 ?_
  refine Cd_ rfl (fun h14=>?_) fun h14=>?_
  ·refine pA_ 8 ?_
   intro w' hw;exact⟨by rw[show cmpE a.ver b.ver=1 from(if_neg om_).trans (if_pos om_)],hw.below⟩
  ·refine pA_ 9 ?_
   intro w' hw;exact⟨by rw[show cmpE a.ver b.ver=0 from(if_neg om_).trans (if_neg om_)],hw.below⟩
theorem ins_c (g cap n a b:Nat)(rest:List Value)(X M Y:List Lk)(hn:(X++(M++Y)).length=n)(ha:X.length=a)(hb:a+M.length=b)(hm:n≤100000)(w:World)(hs:Sat [[(g,.cells ((X++(M++Y)).flatMap lkC++rest).toArray 108 (0,0))]] w):Calls Tryz.prog 126 [.slice (some ⟨g,0,none⟩) n cap,.int .i64 (a:Nat),.int .i64 (b:Nat),.func (.func 154) #[] #[]].toArray w fun e w'=>∃M':List Lk,(Sta Lk.ver M M'∧Up Lk.ver M')∧e= .returned (.tuple #[])∧Hp ⟨w,[g]⟩ [[(g,.cells ((X++(M'++Y)).flatMap lkC++rest).toArray 108 (0,0))]] w':=by
 have hlen:X.length+(M.length+Y.length)=n:=by simpa using hn
 refine Cs_ [[(g,.cells ((X++(M++Y)).flatMap lkC++rest).toArray 108 (0,0))]] Tryz.func126 rfl Tryz.ntmps126 hs<|pA_ 8 ?_
 rw[show X++(M++Y)=X++((M.take 1++M.drop 1)++Y) from by rw[List.take_append_drop]]
 refine loopA (γ:=Nat×List Lk) (fun k=>[(0,.slice (some ⟨g,0,none⟩) n cap),(1,.int .i64 (a:Nat)),(2,.int .i64 (b:Nat)),(3,.func (.func 154) #[] #[]),(8,.int .i64 ((a+k.1:Nat):Int))]) (fun k=>[[(g,.cells ((X++((k.2++M.drop k.1)++Y)).flatMap lkC++rest).toArray 108 (0,0))]]) (fun k=>Sta Lk.ver (M.take k.1) k.2∧Up Lk.ver k.2∧(1≤k.1∧(k.1≤M.length∨k.1=1))) (fun k=>n+1-k.1) ((1,M.take 1)) ⟨Sta.refl _,by cases M<;>simp[Up],Nat.le_refl _,.inr rfl⟩ fun k=>?_
 rintro⟨hS1,hM1,hk1,hk2⟩
 refine pA_ 8 ?_
 refine Cd_ rfl (fun h14=>?_) fun h14=>?_
 ·refine pA_ 11 ?_
  have hkM:k.1<M.length:=by omega
  obtain⟨x,hx⟩:∃x,M[k.1]? =some x:=⟨M[k.1],by simp⟩
  have hl1:k.2.length=k.1:=by rw[hS1.1,List.length_take];omega
  rw[show X++((k.2++M.drop k.1)++Y)=X++((k.2.take (k.1)++x::k.2.drop (k.1))++(M.drop (k.1+1)++Y)) from by rw[(List.take_of_length_le om_:k.2.take k.1=k.2),(List.drop_eq_nil_iff.2 om_:k.2.drop k.1=[]),drop_cons hx];simp]
  refine loopA (γ:=Nat) (fun t=>[(0,.slice (some ⟨g,0,none⟩) n cap),(1,.int .i64 (a:Nat)),(2,.int .i64 (b:Nat)),(3,.func (.func 154) #[] #[]),(8,.int .i64 ((a+k.1:Nat):Int)),(9,.int .i64 ((a+t:Nat):Int))]) (fun t=>[[(g,.cells ((X++((k.2.take (t)++x::k.2.drop (t))++(M.drop (k.1+1)++Y))).flatMap lkC++rest).toArray 108 (0,0))]]) (fun t=>t≤k.1∧∀y∈k.2.drop t,x.ver<y.ver) (fun t=>t) (k.1) ⟨Nat.le_refl _,fun y hy=>by rw[List.drop_eq_nil_iff.2 om_] at hy;cases hy⟩ fun t=>?_
  rintro⟨ht1,ht2⟩
  refine Sq<|Sq<|Qt<|pA_ 4 ?_
  refine QW.split (d:=21) rfl (fun h21=>?_) (fun h21=>?_)
  ·replace h21:=bT h21
   obtain⟨u,hu⟩:∃u,k.2[t-1]? =some u:=⟨k.2[t-1]'om_,by simp⟩
   have hc:X++((k.2.take (t)++x::k.2.drop (t))++(M.drop (k.1+1)++Y))=(X++k.2.take (t-1))++u::([]++x::(k.2.drop t++(M.drop (k.1+1)++Y))):=by
    have e:=take_snoc hu
    rw[show t-1+1=t by omega] at e
    rw[e];simp
   have h1:(X++((k.2.take (t)++x::k.2.drop (t))++(M.drop (k.1+1)++Y)))[a+t]? =some x:=by
    rw[hc,show(X++k.2.take (t-1))++u::([]++x::(k.2.drop t++(M.drop (k.1+1)++Y)))=(X++k.2.take (t-1)++[u])++x::(k.2.drop t++(M.drop (k.1+1)++Y)) from by simp]
    exact at_app _ _ _ _ (by simp;omega)
   have h2:(X++((k.2.take (t)++x::k.2.drop (t))++(M.drop (k.1+1)++Y)))[a+t-1]? =some u:=by rw[hc];exact at_app _ _ _ _ (by simp;omega)
   have hsw:((X++((k.2.take (t)++x::k.2.drop (t))++(M.drop (k.1+1)++Y))).set (a+t) u).set (a+t-1) x=X++((k.2.take (t-1)++x::k.2.drop (t-1))++(M.drop (k.1+1)++Y)):=by
    rw[hc,swp' _ _ _ _ _ _ _ (by simp;omega) (by simp;omega)]
    have e:=drop_cons hu
    rw[show t-1+1=t by omega] at e
    rw[e];simp
   have hll:(X++((k.2.take (t)++x::k.2.drop (t))++(M.drop (k.1+1)++Y))).length=n:=by simp;omega
   refine Qv Mv<|Qv Mv<|Qv Mv<|Qv Ix<|Qv (Val.loadFl (enc:=lkC) rfl Tryz.isAgg108 in_ lkC_len h1 Tryz.sizeOf108)<|Qv Mv<|Qv Mv<|Qv Ar<|QW.re 29 (.int .i64 ((a+t-1:Nat):Int)) rfl (by congr 1;omega)<|Qv Ix<|Qv (Val.loadFl (enc:=lkC) rfl Tryz.isAgg108 in_ lkC_len h2 Tryz.sizeOf108)<|Qc (Qcall.ofF (f:=154) (caps:=[]) rfl rfl Tryz.call154 (fun w hw=>byVer_c x u w))<|Qv Cm<|Qv Pt<|Ql<|Ps ?_
   refine Cd_ rfl (fun h34=>?_) fun h34=>?_
   ·refine pA_ 4 ?_
    refine Dr ([])<|pR_ [0,1,2,3,4] ?_
    refine RW.re 41 (.int .i64 ((a+t-1:Nat):Int)) rfl (by congr 1;omega)<|pR_ [5,6,7] ?_
    refine RW.re 44 (.int .i64 ((a+t-1:Nat):Int)) rfl (by congr 1;omega)<|pR_ [8,10,11,12] ?_
    refine RW.any [9,13] kr_ (by simp) fun i hi=>?_
    simp only[List.mem_cons,List.not_mem_nil,or_false] at hi
    rcases hi with rfl|rfl
    ·refine Ro rfl (Eff.ofVal (Val.loadFl (enc:=lkC) rfl Tryz.isAgg108 in_ lkC_len h2 Tryz.sizeOf108)) fun _ _=>Re 13 rfl (Eff.ofVal (Val.loadFl (enc:=lkC) rfl Tryz.isAgg108 in_ lkC_len h1 Tryz.sizeOf108)) fun _ _=>Rv 14 rfl Ix<|ReN 15 rfl (Eff.storeFl (enc:=lkC) (sz:=5) rfl rfl up_ lkC_len (by first|omega|(simp only[List.length_set];omega)) Tryz.sizeOf108 lkC_one) fun _ _=>Rv 16 rfl Ix<|ReN 17 rfl (Eff.storeFl (enc:=lkC) (sz:=5) rfl rfl up_ lkC_len (by first|omega|(simp only[List.length_set];omega)) Tryz.sizeOf108 lkC_one) fun _ _=>Rd<|Bn<|Ps<|Rg<|Lv Mv<|Lv Ar<|LW.re 36 (.int .i64 ((a+(t-1):Nat):Int)) rfl (by congr 1;omega)<|Lv Av<|Nl ?_
     rw[hsw]
     refine PQ.round (t-1) ⟨by omega,fun y hy=>by
      rw[drop_cons hu,show t-1+1=t by omega] at hy
      rcases List.mem_cons.1 hy with rfl|hy
      ·exact cmpE_lt.1 h34
      ·exact ht2 y hy⟩ om_ (by repeat(first|exact trivial|refine⟨rfl,?_⟩)) pk_
    ·refine Ro rfl (Eff.ofVal (Val.loadFl (enc:=lkC) rfl Tryz.isAgg108 in_ lkC_len h1 Tryz.sizeOf108)) fun _ _=>Re 9 rfl (Eff.ofVal (Val.loadFl (enc:=lkC) rfl Tryz.isAgg108 in_ lkC_len h2 Tryz.sizeOf108)) fun _ _=>Rv 14 rfl Ix<|ReN 15 rfl (Eff.storeFl (enc:=lkC) (sz:=5) rfl rfl up_ lkC_len (by first|omega|(simp only[List.length_set];omega)) Tryz.sizeOf108 lkC_one) fun _ _=>Rv 16 rfl Ix<|ReN 17 rfl (Eff.storeFl (enc:=lkC) (sz:=5) rfl rfl up_ lkC_len (by first|omega|(simp only[List.length_set];omega)) Tryz.sizeOf108 lkC_one) fun _ _=>Rd<|Bn<|Ps<|Rg<|Lv Mv<|Lv Ar<|LW.re 36 (.int .i64 ((a+(t-1):Nat):Int)) rfl (by congr 1;omega)<|Lv Av<|Nl ?_
     rw[hsw]
     refine PQ.round (t-1) ⟨by omega,fun y hy=>by
      rw[drop_cons hu,show t-1+1=t by omega] at hy
      rcases List.mem_cons.1 hy with rfl|hy
      ·exact cmpE_lt.1 h34
      ·exact ht2 y hy⟩ om_ (by repeat(first|exact trivial|refine⟨rfl,?_⟩)) pk_
   ·refine pA_ 11 ?_
    have hup:Up Lk.ver (k.2.take t++x::k.2.drop t):=ins_up hM1 t x (fun y hy=>by have:=ht2 y hy;omega) (fun y hy=>by
     obtain⟨j,hj1,hj2⟩:=mem_take hy
     have:=hM1.get hj2 hu om_
     have:=cmpE_ge.1 h34
     omega)
    rw[show X++((k.2.take (t)++x::k.2.drop (t))++(M.drop (k.1+1)++Y))=X++(((k.2.take t++x::k.2.drop t)++M.drop (k.1+1))++Y) from by simp]
    exact roundA ((k.1+1,k.2.take t++x::k.2.drop t)) ⟨by simp only;rw[take_snoc hx];exact(hS1.app (Sta.refl [x])).trans (ins_sta k.2 t x ht2),hup,by simp only;omega⟩ (by simp only;omega)
  ·replace h21:=bF h21
   refine pA_ 27 ?_
   have hup:Up Lk.ver (k.2.take t++x::k.2.drop t):=ins_up hM1 t x (fun y hy=>by have:=ht2 y hy;omega) (fun y hy=>by
    obtain rfl:t=0:=by omega
    simp at hy)
   rw[show X++((k.2.take (t)++x::k.2.drop (t))++(M.drop (k.1+1)++Y))=X++(((k.2.take t++x::k.2.drop t)++M.drop (k.1+1))++Y) from by simp]
   exact roundA ((k.1+1,k.2.take t++x::k.2.drop t)) ⟨by simp only;rw[take_snoc hx];exact(hS1.app (Sta.refl [x])).trans (ins_sta k.2 t x ht2),hup,by simp only;omega⟩ (by simp only;omega)
 ·refine pA_ 4 ?_
  refine PQ.end0 rfl fun w' hw=>?_
  refine⟨k.2,⟨?_,hM1⟩,rfl,?_⟩
  ·have:=hS1;rwa [List.take_of_length_le om_] at this
  ·rw[show X++((k.2++M.drop k.1)++Y)=X++(k.2++Y) from by rw[List.drop_eq_nil_iff.2 om_];simp] at hw
   exact hw
theorem swr_c (g cap n a b m:Nat)(rest:List Value)(X U Z Rr Y L L':List Lk)(hL:L=X++(U++(Z++(Rr++Y))))(hL':X++(Rr++(Z++(U++Y)))=L')(hn:L.length=n)(ha:X.length=a)(hb:a+U.length+Z.length=b)(hU:U.length=m)(hV:Rr.length=m)(hm:n≤100000)(w:World)(hs:Sat [[(g,.cells ((L).flatMap lkC++rest).toArray 108 (0,0))]] w):Calls Tryz.prog 277 [.slice (some ⟨g,0,none⟩) n cap,.int .i64 (a:Nat),.int .i64 (b:Nat),.int .i64 (m:Nat),.func (.func 154) #[] #[]].toArray w fun e w'=>∃_u:Unit,True∧e= .returned (.tuple #[])∧Hp ⟨w,[g]⟩ [[(g,.cells ((L').flatMap lkC++rest).toArray 108 (0,0))]] w':=by
 subst hL
 have hlen:X.length+(U.length+(Z.length+(Rr.length+Y.length)))=n:=by simpa using hn
 refine Cs_ [[(g,.cells ((X++(U++(Z++(Rr++Y)))).flatMap lkC++rest).toArray 108 (0,0))]] Tryz.func277 rfl Tryz.ntmps277 hs<|pA_ 6 ?_
 rw[show X++(U++(Z++(Rr++Y)))=X++((Rr.take (0)++U.drop (0))++(Z++((U.take (0)++Rr.drop (0))++Y))) from by simp]
 refine loopA (γ:=Nat) (fun t=>[(0,.slice (some ⟨g,0,none⟩) n cap),(1,.int .i64 (a:Nat)),(2,.int .i64 (b:Nat)),(3,.int .i64 (m:Nat)),(10,.int .i64 (t:Nat))]) (fun t=>[[(g,.cells ((X++((Rr.take (t)++U.drop (t))++(Z++((U.take (t)++Rr.drop (t))++Y)))).flatMap lkC++rest).toArray 108 (0,0))]]) (fun t=>t≤m) (fun t=>m-t) (0) (Nat.zero_le _) fun t ht=>pA_ 8 ?_
 refine Cd_ rfl (fun h13=>?_) fun h13=>?_
 ·obtain⟨u,hu⟩:∃u,U[t]? =some u:=⟨U[t]'om_,by simp⟩
  obtain⟨v,hv⟩:∃v,Rr[t]? =some v:=⟨Rr[t]'om_,by simp⟩
  have hc:X++((Rr.take (t)++U.drop (t))++(Z++((U.take (t)++Rr.drop (t))++Y)))=(X++Rr.take t)++u::((U.drop (t+1)++(Z++U.take t))++v::(Rr.drop (t+1)++Y)):=by rw[drop_cons hu,drop_cons hv];simp
  have h1:(X++((Rr.take (t)++U.drop (t))++(Z++((U.take (t)++Rr.drop (t))++Y))))[a+t]? =some u:=by rw[hc];exact at_app _ _ _ _ (by simp;omega)
  have h2:(X++((Rr.take (t)++U.drop (t))++(Z++((U.take (t)++Rr.drop (t))++Y))))[b+t]? =some v:=by
   rw[hc,show(X++Rr.take t)++u::((U.drop (t+1)++(Z++U.take t))++v::(Rr.drop (t+1)++Y))=(X++Rr.take t++u::(U.drop (t+1)++(Z++U.take t)))++v::(Rr.drop (t+1)++Y) from by simp]
   exact at_app _ _ _ _ (by simp;omega)
  have hsw:((X++((Rr.take (t)++U.drop (t))++(Z++((U.take (t)++Rr.drop (t))++Y)))).set (a+t) v).set (b+t) u=X++((Rr.take (t+1)++U.drop (t+1))++(Z++((U.take (t+1)++Rr.drop (t+1))++Y))):=by
   rw[hc,swp _ _ _ _ _ _ _ (by simp;omega) (by simp;omega),take_snoc hu,take_snoc hv];simp
  have hll:(X++((Rr.take (t)++U.drop (t))++(Z++((U.take (t)++Rr.drop (t))++Y)))).length=n:=by simp;omega
  refine pA_ 4 ?_
  refine Dr ([])<|pR_ [0,1,2,3] ?_
  refine RW.re 19 (.int .i64 ((a+t:Nat):Int)) rfl (by congr 1)<|pR_ [4,5,6,7] ?_
  refine RW.re 23 (.int .i64 ((b+t:Nat):Int)) rfl (by congr 1)<|pR_ [8,9,10,11] ?_
  refine RW.re 27 (.int .i64 ((b+t:Nat):Int)) rfl (by congr 1)<|pR_ [12,14,15,16,17] ?_
  refine RW.re 33 (.int .i64 ((a+t:Nat):Int)) rfl (by congr 1)<|Rv 18 rfl Ix<|RW.any [13,19] kr_ (by simp) fun i hi=>?_
  simp only[List.mem_cons,List.not_mem_nil,or_false] at hi
  rcases hi with rfl|rfl
  ·refine Ro rfl (Eff.ofVal (Val.loadFl (enc:=lkC) rfl Tryz.isAgg108 in_ lkC_len h2 Tryz.sizeOf108)) fun _ _=>Re 19 rfl (Eff.ofVal (Val.loadFl (enc:=lkC) rfl Tryz.isAgg108 in_ lkC_len h1 Tryz.sizeOf108)) fun _ _=>Rv 20 rfl Ix<|ReN 21 rfl (Eff.storeFl (enc:=lkC) (sz:=5) rfl rfl up_ lkC_len (by first|omega|(simp only[List.length_set];omega)) Tryz.sizeOf108 lkC_one) fun _ _=>Rv 22 rfl Ix<|ReN 23 rfl (Eff.storeFl (enc:=lkC) (sz:=5) rfl rfl up_ lkC_len (by first|omega|(simp only[List.length_set];omega)) Tryz.sizeOf108 lkC_one) fun _ _=>Rd<|Bn<|Ps<|Rg<|Lv Mv<|Lv Ar<|Lv Av<|Nl ?_
   rw[hsw]
   exact roundA (t+1) om_ om_
  ·refine Ro rfl (Eff.ofVal (Val.loadFl (enc:=lkC) rfl Tryz.isAgg108 in_ lkC_len h1 Tryz.sizeOf108)) fun _ _=>Re 13 rfl (Eff.ofVal (Val.loadFl (enc:=lkC) rfl Tryz.isAgg108 in_ lkC_len h2 Tryz.sizeOf108)) fun _ _=>Rv 20 rfl Ix<|ReN 21 rfl (Eff.storeFl (enc:=lkC) (sz:=5) rfl rfl up_ lkC_len (by first|omega|(simp only[List.length_set];omega)) Tryz.sizeOf108 lkC_one) fun _ _=>Rv 22 rfl Ix<|ReN 23 rfl (Eff.storeFl (enc:=lkC) (sz:=5) rfl rfl up_ lkC_len (by first|omega|(simp only[List.length_set];omega)) Tryz.sizeOf108 lkC_one) fun _ _=>Rd<|Bn<|Ps<|Rg<|Lv Mv<|Lv Ar<|Lv Av<|Nl ?_
   rw[hsw]
   exact roundA (t+1) om_ om_
 ·refine pA_ 4 ?_
  refine PQ.end0 rfl fun w' hw=>?_
  obtain rfl:t=m:=by omega
  refine⟨(),trivial,rfl,?_⟩
  rw[show X++((Rr.take (t)++U.drop (t))++(Z++((U.take (t)++Rr.drop (t))++Y)))=L' from by rw[← hL',List.take_of_length_le (Nat.le_of_eq hV),List.take_of_length_le (Nat.le_of_eq hU),List.drop_eq_nil_iff.2 (Nat.le_of_eq hV),List.drop_eq_nil_iff.2 (Nat.le_of_eq hU)];simp] at hw
  exact hw
theorem rot_c (g cap n a m b:Nat)(rest:List Value)(X U Rr Y L L':List Lk)(hL:L=X++(U++(Rr++Y)))(hL':X++(Rr++(U++Y))=L')(hn:L.length=n)(ha:X.length=a)(hmm:a+U.length=m)(hb:m+Rr.length=b)(hU:0<U.length)(hV:0<Rr.length)(hm:n≤100000)(w:World)(hs:Sat [[(g,.cells ((L).flatMap lkC++rest).toArray 108 (0,0))]] w):Calls Tryz.prog 262 [.slice (some ⟨g,0,none⟩) n cap,.int .i64 (a:Nat),.int .i64 (m:Nat),.int .i64 (b:Nat),.func (.func 154) #[] #[]].toArray w fun e w'=>∃_u:Unit,True∧e= .returned (.tuple #[])∧Hp ⟨w,[g]⟩ [[(g,.cells ((L').flatMap lkC++rest).toArray 108 (0,0))]] w':=by
 subst hL
 have hlen:X.length+(U.length+(Rr.length+Y.length))=n:=by simpa using hn
 refine Cs_ [[(g,.cells ((X++(U++(Rr++Y))).flatMap lkC++rest).toArray 108 (0,0))]] Tryz.func262 rfl Tryz.ntmps262 hs<|pA_ 18 ?_
 rw[show X++(U++(Rr++Y))=X++([]++(U++(Rr++([]++Y)))) from by simp]
 refine CW.loop (γ:=List Lk×List Lk×List Lk×List Lk) (fun k=>[(0,.slice (some ⟨g,0,none⟩) n cap),(2,.int .i64 (m:Nat)),(4,.func (.func 154) #[] #[]),(10,.int .i64 (k.2.1.length:Nat)),(11,.int .i64 (k.2.2.1.length:Nat))]) (fun k=>[[(g,.cells ((X++(k.1++(k.2.1++(k.2.2.1++(k.2.2.2++Y))))).flatMap lkC++rest).toArray 108 (0,0))]]) (fun k=>0<k.2.1.length∧0<k.2.2.1.length∧X.length+k.1.length+k.2.1.length=m∧k.1++(k.2.2.1++(k.2.1++k.2.2.2))=Rr++U) (fun k=>k.2.1.length+k.2.2.1.length) (([],U,Rr,[])) ⟨hU,hV,by simp;omega,by simp⟩ (by exact⟨rfl,rfl,rfl,congrArg (fun z:Int=>some (Value.int .i64 z)) (by simp only;omega),congrArg (fun z:Int=>some (Value.int .i64 z)) (by simp only;omega),trivial⟩) pk_ fun k=>?_
 rintro⟨hk1,hk2,hk3,hk4⟩
 have hlk:k.1.length+(k.2.2.1.length+(k.2.1.length+k.2.2.2.length))=Rr.length+U.length:=by simpa using congrArg List.length hk4
 refine pA_ 8 ?_
 refine Cd_ rfl (fun h20=>?_) fun h20=>?_
 ·refine pA_ 10 ?_
  refine Cd_ rfl (fun h23=>?_) fun h23=>?_
  ·refine pA_ 6 ?_
   refine LW.re 27 (.int .i64 ((m-k.2.1.length:Nat):Int)) rfl (by congr 1;omega)<|pA_ 3 ?_
   refine Le (CM ([[(g,.cells ((X++(k.1++(k.2.1++(k.2.2.1++(k.2.2.2++Y))))).flatMap lkC++rest).toArray 108 (0,0))]]) fun w hw hs=>swr_c g cap n (m-k.2.1.length) (m) (k.2.2.1.length) rest (X++k.1) (k.2.1.take k.2.2.1.length) (k.2.1.drop k.2.2.1.length) (k.2.2.1) (k.2.2.2++Y) (X++(k.1++(k.2.1++(k.2.2.1++(k.2.2.2++Y))))) (X++((k.1++k.2.2.1)++(k.2.1.drop k.2.2.1.length++(k.2.1.take k.2.2.1.length++(k.2.2.2++Y))))) (by rw[← List.append_assoc (k.2.1.take _),List.take_append_drop];simp) (by simp) (by first|(simp;done)|(simp;omega)|omega) (by first|(simp;done)|(simp;omega)|omega) (by first|(simp;done)|(simp;omega)|omega) (by first|(simp;done)|(simp;omega)|omega) (by first|(simp;done)|(simp;omega)|omega) hm w hs) fun _ _=>pA_ 6 ?_
   refine LW.re 34 (.int .i64 ((k.2.1.length-k.2.2.1.length:Nat):Int)) rfl (by congr 1;omega)<|pA_ 3 ?_
   refine PQ.round ((k.1++k.2.2.1,k.2.1.drop k.2.2.1.length,k.2.1.take k.2.2.1.length,k.2.2.2)) ⟨by simp;omega,by simp;omega,by simp;omega,by rw[← hk4];simp only[List.append_assoc];rw[← List.append_assoc (k.2.1.take _),List.take_append_drop]⟩ (by simp;omega) (by exact⟨rfl,rfl,rfl,congrArg (fun z:Int=>some (Value.int .i64 z)) (by simp),congrArg (fun z:Int=>some (Value.int .i64 z)) (by simp;omega),trivial⟩) pk_
  ·refine pA_ 6 ?_
   refine LW.re 38 (.int .i64 ((m-k.2.1.length:Nat):Int)) rfl (by congr 1;omega)<|pA_ 5 ?_
   refine LW.re 43 (.int .i64 ((m+k.2.2.1.length-k.2.1.length:Nat):Int)) rfl (by congr 1;omega)<|Lv Mv<|Lv Mv<|Le (CM ([[(g,.cells ((X++(k.1++(k.2.1++(k.2.2.1++(k.2.2.2++Y))))).flatMap lkC++rest).toArray 108 (0,0))]]) fun w hw hs=>swr_c g cap n (m-k.2.1.length) (m+k.2.2.1.length-k.2.1.length) (k.2.1.length) rest (X++k.1) (k.2.1) (k.2.2.1.take (k.2.2.1.length-k.2.1.length)) (k.2.2.1.drop (k.2.2.1.length-k.2.1.length)) (k.2.2.2++Y) (X++(k.1++(k.2.1++(k.2.2.1++(k.2.2.2++Y))))) (X++(k.1++(k.2.2.1.drop (k.2.2.1.length-k.2.1.length)++(k.2.2.1.take (k.2.2.1.length-k.2.1.length)++((k.2.1++k.2.2.2)++Y))))) (by rw[← List.append_assoc (k.2.2.1.take _),List.take_append_drop];simp) (by simp) (by first|(simp;done)|(simp;omega)|omega) (by first|(simp;done)|(simp;omega)|omega) (by first|(simp;done)|(simp;omega)|omega) (by first|(simp;done)|(simp;omega)|omega) (by first|(simp;done)|(simp;omega)|omega) hm w hs) fun _ _=>pA_ 6 ?_
   refine LW.re 49 (.int .i64 ((k.2.2.1.length-k.2.1.length:Nat):Int)) rfl (by congr 1;omega)<|pA_ 3 ?_
   refine PQ.round ((k.1,k.2.2.1.drop (k.2.2.1.length-k.2.1.length),k.2.2.1.take (k.2.2.1.length-k.2.1.length),k.2.1++k.2.2.2)) ⟨by simp;omega,by simp;omega,by simp;omega,by rw[← hk4];simp only;rw[← List.append_assoc (k.2.2.1.take _),List.take_append_drop]⟩ (by simp;omega) (by exact⟨rfl,rfl,rfl,congrArg (fun z:Int=>some (Value.int .i64 z)) (by simp;omega),congrArg (fun z:Int=>some (Value.int .i64 z)) (by simp),trivial⟩) pk_
 ·refine pA_ 10 ?_
  refine LW.re 53 (.int .i64 ((m-k.2.1.length:Nat):Int)) rfl (by congr 1;omega)<|pA_ 3 ?_
  refine Le (CM ([[(g,.cells ((X++(k.1++(k.2.1++(k.2.2.1++(k.2.2.2++Y))))).flatMap lkC++rest).toArray 108 (0,0))]]) fun w hw hs=>swr_c g cap n (m-k.2.1.length) (m) (k.2.1.length) rest (X++k.1) (k.2.1) ([]) (k.2.2.1) (k.2.2.2++Y) (X++(k.1++(k.2.1++(k.2.2.1++(k.2.2.2++Y))))) (X++(k.1++(k.2.2.1++(k.2.1++(k.2.2.2++Y))))) (by simp) (by simp) (by first|(simp;done)|(simp;omega)|omega) (by first|(simp;done)|(simp;omega)|omega) (by first|(simp;done)|(simp;omega)|omega) (by first|(simp;done)|(simp;omega)|omega) (by first|(simp;done)|(simp;omega)|omega) hm w hs) fun _ _=>Nl<|PQ.end0 rfl fun w' hw=>?_
  refine⟨(),trivial,rfl,?_⟩
  rw[show X++(k.1++(k.2.2.1++(k.2.1++(k.2.2.2++Y))))=L' from by rw[← hL',← List.append_assoc Rr,← hk4];simp] at hw
  exact hw
end Stb
end
end G
end Go.Proofs.YtjidffamcdcecaaGreat
namespace Go.Proofs.YtjidffamcdcecaaGreat
open Go Go.RowKit V
set_option linter.unusedVariables false
set_option maxRecDepth 100000
namespace G
section
attribute [local irreducible] V.CW V.LW V.QW V.RW V.PQ V.Val V.Eff V.Qcall
open V (str byC ownV ownG ownS ownOk)
instance:Cal Tryz.prog 262:=⟨Tryz.call262⟩
namespace Stb
theorem mid_eq (p q r:Nat)(h:p+q<2^62)(hr:r=(p+q)/2):Value.int .i64 (IntKind.i64.wrap ((IntKind.u64.wrap ((p:Int)+(q:Int))).fdiv (2^(min (1:Int).toNat IntKind.u64.bits))))= .int .i64 ((r:Nat):Int):=by
 have e0:IntKind.u64.wrap ((p:Int)+(q:Int))=((p+q:Nat):Int):=by rw[← Int.natCast_add];exact IntWalk.u64_in _ om_
 have e1:((p+q:Nat):Int).fdiv (2^(min (1:Int).toNat IntKind.u64.bits))=((r:Nat):Int):=by
  rw[show(min (1:Int).toNat IntKind.u64.bits)=1 from by decide]
  rw[hr,Int.fdiv_eq_ediv_of_nonneg _ (by decide)]
  simp
 rw[e0,e1,IntWalk.i64_in _ om_]
set_option maxHeartbeats 2000000 in
theorem sym_c (g cap n:Nat)(rest:List Value)(hm:n≤100000):∀(N a m b:Nat) (X A B Y L:List Lk),A.length+B.length≤N→L=X++(A++(B++Y))→L.length=n→X.length=a→a+A.length=m→m+B.length=b→0<A.length→0<B.length→Up Lk.ver A→Up Lk.ver B→∀w:World,Sat [[(g,.cells ((L).flatMap lkC++rest).toArray 108 (0,0))]] w→
 Calls Tryz.prog 230 [.slice (some ⟨g,0,none⟩) n cap,.int .i64 (a:Nat),.int .i64 (m:Nat),.int .i64 (b:Nat),.func (.func 154) #[] #[]].toArray w fun e w'=>∃M':List Lk,(Sta Lk.ver (A++B) M'∧Up Lk.ver M')∧e= .returned (.tuple #[])∧Hp ⟨w,[g]⟩ [[(g,.cells ((X++(M'++Y)).flatMap lkC++rest).toArray 108 (0,0))]] w':=by
 intro N
 induction N with
 |zero=>intro a m b X A B Y L h1 _ _ _ _ _ h2 _ _ _ w _;omega
 |succ N ih=>
  intro a m b X A B Y L hN hL hn ha hmm hb hA0 hB0 hA hB w hs
  subst hL
  have hlen:X.length+(A.length+(B.length+Y.length))=n:=by simpa using hn
  refine Cs_ [[(g,.cells ((X++(A++(B++Y))).flatMap lkC++rest).toArray 108 (0,0))]] Tryz.func230 rfl Tryz.ntmps230 hs<|pA_ 9 ?_
  refine Cd_ rfl (fun h28=>?_) fun h28=>?_
  ·obtain⟨x,rfl⟩:=List.length_eq_one_iff.1 (by omega:A.length=1)
   have hmx:a+1=m:=hmm
   refine pA_ 14 ?_
   refine CW.loop (γ:=Nat×Nat) (fun k=>[(0,.slice (some ⟨g,0,none⟩) n cap),(1,.int .i64 ((a:Nat):Int)),(2,.int .i64 ((m:Nat):Int)),(4,.func (.func 154) #[] #[]),(10,.int .i64 ((m+k.1:Nat):Int)),(11,.int .i64 ((m+k.2:Nat):Int))]) (fun _=>[[(g,.cells ((X++([x]++(B++Y))).flatMap lkC++rest).toArray 108 (0,0))]]) (fun k=>k.1≤k.2∧k.2≤B.length∧(∀y∈B.take k.1,y.ver<x.ver)∧(∀y∈B.drop k.2,x.ver≤y.ver)) (fun k=>k.2-k.1) ((0,B.length)) ⟨Nat.zero_le _,Nat.le_refl _,by simp,by simp⟩ (by exact⟨rfl,rfl,rfl,rfl,rfl,congrArg (fun z:Int=>some (Value.int .i64 z)) (by first|omega|(simp only;omega)),trivial⟩) pk_ fun k=>?_
   rintro⟨hk1,hk2,hk3,hk4⟩
   refine pA_ 8 ?_
   refine Cd_ rfl (fun h33=>?_) fun h33=>?_
   ·obtain⟨c,hc⟩:∃c,c=(k.1+k.2)/2:=⟨_,rfl⟩
    obtain⟨y,hy⟩:∃y,B[c]? =some y:=⟨B[c]'om_,by simp⟩
    have h1:(X++([x]++(B++Y)))[m+c]? =some y:=by rw[List.getElem?_append_right om_,List.getElem?_append_right (by simp;omega),List.getElem?_append_left (by simp;omega)];rw[show m+c-X.length- [x].length=c by simp;omega];exact hy
    have h2:(X++([x]++(B++Y)))[a]? =some x:=by rw[List.getElem?_append_right om_];simp[ha]
    refine Sk<|Ps<|Bk<|Sq<|Rg<|Lv Mv<|Lv Mv<|Lv Ar<|Lv Cv<|Lv (Val.shr rfl rfl om_)<|Lv Cv<|LW.re 39 (.int .i64 ((m+c:Nat):Int)) rfl (mid_eq (m+k.1) (m+k.2) _ om_ om_)<|Lv Av<|Nl<|Ps<|Sq<|Qt<|Qv Mv<|Qv Mv<|Qv Mv<|Qv Ix<|Qv (Val.loadFl (enc:=lkC) rfl Tryz.isAgg108 in_ lkC_len h1 Tryz.sizeOf108)<|Qv Mv<|Qv Mv<|Qv Ix<|Qv (Val.loadFl (enc:=lkC) rfl Tryz.isAgg108 in_ lkC_len h2 Tryz.sizeOf108)<|Qc (Qcall.ofF (f:=154) (caps:=[]) rfl rfl Tryz.call154 (fun w hw=>byVer_c y x w))<|Qv Cm<|Ql<|Ps ?_
    refine Cd_ rfl (fun h50=>?_) fun h50=>?_
    ·rw[cmpE_lt] at h50
     refine pA_ 6 ?_
     refine PQ.round ((c+1,k.2)) ⟨by simp only;omega,hk2,fun z hz=>by
      obtain⟨j,hj1,hj2⟩:=mem_take hz
      have:=hB.get hj2 hy om_
      omega,hk4⟩ (by simp only;omega) (by repeat(first|exact trivial|refine⟨rfl,?_⟩)) pk_
    ·rw[cmpE_ge] at h50
     refine pA_ 5 ?_
     refine PQ.round ((k.1,c)) ⟨by simp only;omega,by simp only;omega,hk3,fun z hz=>by
      obtain⟨j,hj1,hj2⟩:=mem_drop hz
      have:=hB.get hy hj2 om_
      omega⟩ (by simp only;omega) (by repeat(first|exact trivial|refine⟨rfl,?_⟩)) pk_
   ·refine pA_ 13 ?_
    obtain⟨s,r⟩:=k
    simp only at hk1 hk2 hk3 hk4 h33
    obtain rfl:s=r:=by omega
    rw[show X++([x]++(B++Y))=X++((B.take (0)++x::B.drop (0))++Y) from by simp]
    refine loopA (γ:=Nat) (fun t=>[(0,.slice (some ⟨g,0,none⟩) n cap),(10,.int .i64 ((m+s:Nat):Int)),(13,.int .i64 ((a+t:Nat):Int))]) (fun t=>[[(g,.cells ((X++((B.take (t)++x::B.drop (t))++Y)).flatMap lkC++rest).toArray 108 (0,0))]]) (fun t=>t≤s) (fun t=>s-t) (0) (Nat.zero_le _) fun t ht=>pA_ 9 ?_
    refine Cd_ rfl (fun h58=>?_) fun h58=>?_
    ·obtain⟨v,hv⟩:∃v,B[t]? =some v:=⟨B[t]'om_,by simp⟩
     have hcc:X++((B.take (t)++x::B.drop (t))++Y)=(X++B.take t)++x::([]++v::(B.drop (t+1)++Y)):=by rw[drop_cons hv];simp
     have h1:(X++((B.take (t)++x::B.drop (t))++Y))[a+t]? =some x:=by rw[hcc];exact at_app _ _ _ _ (by simp;omega)
     have h2:(X++((B.take (t)++x::B.drop (t))++Y))[a+t+1]? =some v:=by
      rw[hcc,show(X++B.take t)++x::([]++v::(B.drop (t+1)++Y))=(X++B.take t++[x])++v::(B.drop (t+1)++Y) from by simp]
      exact at_app _ _ _ _ (by simp;omega)
     have hsw:((X++((B.take (t)++x::B.drop (t))++Y)).set (a+t) v).set (a+t+1) x=X++((B.take (t+1)++x::B.drop (t+1))++Y):=by
      rw[hcc,swp _ _ _ _ _ _ _ (by simp;omega) (by simp;omega),take_snoc hv];simp
     have hll:(X++((B.take (t)++x::B.drop (t))++Y)).length=n:=by simp at hlen⊢;omega
     refine pA_ 4 ?_
     refine Dr ([])<|pR_ [0,1,2,3,4] ?_
     refine RW.re 65 (.int .i64 ((a+t+1:Nat):Int)) rfl (by congr 1)<|pR_ [5,6,7] ?_
     refine RW.re 68 (.int .i64 ((a+t+1:Nat):Int)) rfl (by congr 1)<|pR_ [8,10,11,12] ?_
     refine RW.any [9,13] kr_ (by simp) fun i hi=>?_
     simp only[List.mem_cons,List.not_mem_nil,or_false] at hi
     rcases hi with rfl|rfl
     ·refine Ro rfl (Eff.ofVal (Val.loadFl (enc:=lkC) rfl Tryz.isAgg108 in_ lkC_len h2 Tryz.sizeOf108)) fun _ _=>Re 13 rfl (Eff.ofVal (Val.loadFl (enc:=lkC) rfl Tryz.isAgg108 in_ lkC_len h1 Tryz.sizeOf108)) fun _ _=>Rv 14 rfl Ix<|ReN 15 rfl (Eff.storeFl (enc:=lkC) (sz:=5) rfl rfl up_ lkC_len (by first|omega|(simp only[List.length_set];omega)) Tryz.sizeOf108 lkC_one) fun _ _=>Rv 16 rfl Ix<|ReN 17 rfl (Eff.storeFl (enc:=lkC) (sz:=5) rfl rfl up_ lkC_len (by first|omega|(simp only[List.length_set];omega)) Tryz.sizeOf108 lkC_one) fun _ _=>Rd<|Bn<|Ps<|Rg<|Lv Mv<|Lv Ar<|Lv Av<|Nl ?_
      rw[hsw]
      exact roundA (t+1) om_ om_
     ·refine Ro rfl (Eff.ofVal (Val.loadFl (enc:=lkC) rfl Tryz.isAgg108 in_ lkC_len h1 Tryz.sizeOf108)) fun _ _=>Re 9 rfl (Eff.ofVal (Val.loadFl (enc:=lkC) rfl Tryz.isAgg108 in_ lkC_len h2 Tryz.sizeOf108)) fun _ _=>Rv 14 rfl Ix<|ReN 15 rfl (Eff.storeFl (enc:=lkC) (sz:=5) rfl rfl up_ lkC_len (by first|omega|(simp only[List.length_set];omega)) Tryz.sizeOf108 lkC_one) fun _ _=>Rv 16 rfl Ix<|ReN 17 rfl (Eff.storeFl (enc:=lkC) (sz:=5) rfl rfl up_ lkC_len (by first|omega|(simp only[List.length_set];omega)) Tryz.sizeOf108 lkC_one) fun _ _=>Rd<|Bn<|Ps<|Rg<|Lv Mv<|Lv Ar<|Lv Av<|Nl ?_
      rw[hsw]
      exact roundA (t+1) om_ om_
    ·refine pA_ 7 ?_
     refine PQ.ret0 rfl fun w' hw=>?_
     obtain rfl:t=s:=by omega
     exact⟨B.take t++x::B.drop t,⟨ins_sta' B t x hk3,ins_up hB t x hk4 (fun z hz=>by have:=hk3 z hz;omega)⟩,rfl,hw⟩
  ·refine pA_ 11 ?_
   refine Cd_ rfl (fun h80=>?_) fun h80=>?_
   ·obtain⟨y,rfl⟩:=List.length_eq_one_iff.1 (by omega:B.length=1)
    have hby:m+1=b:=hb
    refine pA_ 14 ?_
    refine CW.loop (γ:=Nat×Nat) (fun k=>[(0,.slice (some ⟨g,0,none⟩) n cap),(1,.int .i64 ((a:Nat):Int)),(2,.int .i64 ((m:Nat):Int)),(4,.func (.func 154) #[] #[]),(14,.int .i64 ((a+k.1:Nat):Int)),(15,.int .i64 ((a+k.2:Nat):Int))]) (fun _=>[[(g,.cells ((X++(A++([y]++Y))).flatMap lkC++rest).toArray 108 (0,0))]]) (fun k=>k.1≤k.2∧k.2≤A.length∧(∀z∈A.take k.1,z.ver≤y.ver)∧(∀z∈A.drop k.2,y.ver<z.ver)) (fun k=>k.2-k.1) ((0,A.length)) ⟨Nat.zero_le _,Nat.le_refl _,by simp,by simp⟩ (by exact⟨rfl,rfl,rfl,rfl,rfl,congrArg (fun z:Int=>some (Value.int .i64 z)) (by first|omega|(simp only;omega)),trivial⟩) pk_ fun k=>?_
    rintro⟨hk1,hk2,hk3,hk4⟩
    refine pA_ 8 ?_
    refine Cd_ rfl (fun h85=>?_) fun h85=>?_
    ·obtain⟨c,hc⟩:∃c,c=(k.1+k.2)/2:=⟨_,rfl⟩
     obtain⟨z,hz⟩:∃z,A[c]? =some z:=⟨A[c]'om_,by simp⟩
     have h1:(X++(A++([y]++Y)))[m]? =some y:=by rw[List.getElem?_append_right om_,List.getElem?_append_right om_];rw[show m-X.length-A.length=0 by omega];rfl
     have h2:(X++(A++([y]++Y)))[a+c]? =some z:=by rw[List.getElem?_append_right om_,List.getElem?_append_left om_,show a+c-X.length=c by omega];exact hz
     refine Sk<|Ps<|Bk<|Sq<|Rg<|Lv Mv<|Lv Mv<|Lv Ar<|Lv Cv<|Lv (Val.shr rfl rfl om_)<|Lv Cv<|LW.re 91 (.int .i64 ((a+c:Nat):Int)) rfl (mid_eq (a+k.1) (a+k.2) _ om_ om_)<|Lv Av<|Nl<|Ps<|Sq<|Qt<|Qv Mv<|Qv Mv<|Qv Mv<|Qv Ix<|Qv (Val.loadFl (enc:=lkC) rfl Tryz.isAgg108 in_ lkC_len h1 Tryz.sizeOf108)<|Qv Mv<|Qv Mv<|Qv Ix<|Qv (Val.loadFl (enc:=lkC) rfl Tryz.isAgg108 in_ lkC_len h2 Tryz.sizeOf108)<|Qc (Qcall.ofF (f:=154) (caps:=[]) rfl rfl Tryz.call154 (fun w hw=>byVer_c y z w))<|Qv Cm<|Qv Nt<|Ql<|Ps ?_
     refine Cd_ rfl (fun h103=>?_) fun h103=>?_
     ·rw[cmpE_ge] at h103
      refine pA_ 6 ?_
      refine PQ.round ((c+1,k.2)) ⟨by simp only;omega,hk2,fun x hx=>by
       obtain⟨j,hj1,hj2⟩:=mem_take hx
       have:=hA.get hj2 hz om_
       omega,hk4⟩ (by simp only;omega) (by repeat(first|exact trivial|refine⟨rfl,?_⟩)) pk_
     ·rw[cmpE_lt] at h103
      refine pA_ 5 ?_
      refine PQ.round ((k.1,c)) ⟨by simp only;omega,by simp only;omega,hk3,fun x hx=>by
       obtain⟨j,hj1,hj2⟩:=mem_drop hx
       have:=hA.get hz hj2 om_
       omega⟩ (by simp only;omega) (by repeat(first|exact trivial|refine⟨rfl,?_⟩)) pk_
    ·refine pA_ 13 ?_
     obtain⟨s,r⟩:=k
     simp only at hk1 hk2 hk3 hk4 h85
     obtain rfl:s=r:=by omega
     rw[show X++(A++([y]++Y))=X++((A.take (A.length)++y::A.drop (A.length))++Y) from by simp]
     refine CW.loop (γ:=Nat) (fun t=>[(0,.slice (some ⟨g,0,none⟩) n cap),(14,.int .i64 ((a+s:Nat):Int)),(17,.int .i64 ((a+t:Nat):Int))]) (fun t=>[[(g,.cells ((X++((A.take (t)++y::A.drop (t))++Y)).flatMap lkC++rest).toArray 108 (0,0))]]) (fun t=>s≤t∧t≤A.length) (fun t=>t-s) (A.length) ⟨hk2,Nat.le_refl _⟩ (by exact⟨rfl,rfl,congrArg (fun z:Int=>some (Value.int .i64 z)) (by first|omega|(simp only;omega)),trivial⟩) pk_ fun t=>?_
     rintro⟨ht1,ht2⟩
     refine pA_ 8 ?_
     refine Cd_ rfl (fun h110=>?_) fun h110=>?_
     ·obtain⟨u,hu⟩:∃u,A[t-1]? =some u:=⟨A[t-1]'om_,by simp⟩
      have hcc:X++((A.take (t)++y::A.drop (t))++Y)=(X++A.take (t-1))++u::([]++y::(A.drop t++Y)):=by
       have e:=take_snoc hu
       rw[show t-1+1=t by omega] at e
       rw[e];simp
      have h1:(X++((A.take (t)++y::A.drop (t))++Y))[a+t]? =some y:=by
       rw[hcc,show(X++A.take (t-1))++u::([]++y::(A.drop t++Y))=(X++A.take (t-1)++[u])++y::(A.drop t++Y) from by simp]
       exact at_app _ _ _ _ (by simp;omega)
      have h2:(X++((A.take (t)++y::A.drop (t))++Y))[a+t-1]? =some u:=by rw[hcc];exact at_app _ _ _ _ (by simp;omega)
      have hsw:((X++((A.take (t)++y::A.drop (t))++Y)).set (a+t) u).set (a+t-1) y=X++((A.take (t-1)++y::A.drop (t-1))++Y):=by
       rw[hcc,swp' _ _ _ _ _ _ _ (by simp;omega) (by simp;omega)]
       have e:=drop_cons hu
       rw[show t-1+1=t by omega] at e
       rw[e];simp
      have hll:(X++((A.take (t)++y::A.drop (t))++Y)).length=n:=by simp at hlen⊢;omega
      refine pA_ 4 ?_
      refine Dr ([])<|pR_ [0,1,2,3,4] ?_
      refine RW.re 117 (.int .i64 ((a+t-1:Nat):Int)) rfl (by congr 1;omega)<|pR_ [5,6,7] ?_
      refine RW.re 120 (.int .i64 ((a+t-1:Nat):Int)) rfl (by congr 1;omega)<|pR_ [8,10,11,12] ?_
      refine RW.any [9,13] kr_ (by simp) fun i hi=>?_
      simp only[List.mem_cons,List.not_mem_nil,or_false] at hi
      rcases hi with rfl|rfl
      ·refine Ro rfl (Eff.ofVal (Val.loadFl (enc:=lkC) rfl Tryz.isAgg108 in_ lkC_len h2 Tryz.sizeOf108)) fun _ _=>Re 13 rfl (Eff.ofVal (Val.loadFl (enc:=lkC) rfl Tryz.isAgg108 in_ lkC_len h1 Tryz.sizeOf108)) fun _ _=>Rv 14 rfl Ix<|ReN 15 rfl (Eff.storeFl (enc:=lkC) (sz:=5) rfl rfl up_ lkC_len (by first|omega|(simp only[List.length_set];omega)) Tryz.sizeOf108 lkC_one) fun _ _=>Rv 16 rfl Ix<|ReN 17 rfl (Eff.storeFl (enc:=lkC) (sz:=5) rfl rfl up_ lkC_len (by first|omega|(simp only[List.length_set];omega)) Tryz.sizeOf108 lkC_one) fun _ _=>Rd<|Bn<|Ps<|Rg<|Lv Mv<|Lv Ar<|LW.re 112 (.int .i64 ((a+(t-1):Nat):Int)) rfl (by congr 1;omega)<|Lv Av<|Nl ?_
       rw[hsw]
       exact roundA (t-1) ⟨by omega,by omega⟩ om_
      ·refine Ro rfl (Eff.ofVal (Val.loadFl (enc:=lkC) rfl Tryz.isAgg108 in_ lkC_len h1 Tryz.sizeOf108)) fun _ _=>Re 9 rfl (Eff.ofVal (Val.loadFl (enc:=lkC) rfl Tryz.isAgg108 in_ lkC_len h2 Tryz.sizeOf108)) fun _ _=>Rv 14 rfl Ix<|ReN 15 rfl (Eff.storeFl (enc:=lkC) (sz:=5) rfl rfl up_ lkC_len (by first|omega|(simp only[List.length_set];omega)) Tryz.sizeOf108 lkC_one) fun _ _=>Rv 16 rfl Ix<|ReN 17 rfl (Eff.storeFl (enc:=lkC) (sz:=5) rfl rfl up_ lkC_len (by first|omega|(simp only[List.length_set];omega)) Tryz.sizeOf108 lkC_one) fun _ _=>Rd<|Bn<|Ps<|Rg<|Lv Mv<|Lv Ar<|LW.re 112 (.int .i64 ((a+(t-1):Nat):Int)) rfl (by congr 1;omega)<|Lv Av<|Nl ?_
       rw[hsw]
       exact roundA (t-1) ⟨by omega,by omega⟩ om_
     ·refine pA_ 7 ?_
      refine PQ.ret0 rfl fun w' hw=>?_
      obtain rfl:t=s:=by omega
      exact⟨A.take t++y::A.drop t,⟨ins_sta A t y hk4,ins_up hA t y (fun z hz=>by have:=hk4 z hz;omega) hk3⟩,rfl,hw⟩
   ·refine pA_ 3 ?_
    obtain⟨mid,hmid⟩:∃mid,mid=(a+b)/2:=⟨_,rfl⟩
    refine pA_ 5 ?_
    refine Lv (Val.shr rfl rfl om_)<|Lv Cv<|LW.re 134 (.int .i64 ((mid:Nat):Int)) rfl (mid_eq a b _ om_ hmid)<|pA_ 4 ?_
    obtain⟨nn,hnn⟩:∃nn,nn=mid+m:=⟨_,rfl⟩
    refine pA_ 4 ?_
    refine LW.re 137 (.int .i64 ((nn:Nat):Int)) rfl (by congr 1;omega)<|pA_ 10 ?_
    refine CW.join (fun k:Nat×Nat=>k.1=(if mid<m then nn-b else a)∧k.2=(if mid<m then mid else m)) (fun k=>[(0,.slice (some ⟨g,0,none⟩) n cap),(1,.int .i64 ((a:Nat):Int)),(2,.int .i64 ((m:Nat):Int)),(3,.int .i64 ((b:Nat):Int)),(4,.func (.func 154) #[] #[]),(18,.int .i64 ((mid:Nat):Int)),(19,.int .i64 ((nn:Nat):Int)),(20,.int .i64 ((k.1:Nat):Int)),(21,.int .i64 ((k.2:Nat):Int))]) (fun _=>[[(g,.cells ((X++(A++(B++Y))).flatMap lkC++rest).toArray 108 (0,0))]]) ?_ ?_
    ·refine pA_ 7 ?_
     refine Cd_ rfl (fun h140=>?_) fun h140=>?_
     ·refine pA_ 5 ?_
      refine LW.re 143 (.int .i64 ((nn-b:Nat):Int)) rfl (by congr 1;omega)<|pA_ 7 ?_
      exact joinC ((nn-b,mid)) (⟨by rw[if_pos om_],by rw[if_pos om_]⟩)
     ·refine pA_ 10 ?_
      exact joinC ((a,m)) (⟨by rw[if_neg om_],by rw[if_neg om_]⟩)
    ·rintro⟨lo,hi⟩ ⟨hlo,hhi⟩
     simp only at hlo hhi
     have hlh:lo≤hi:=by split at hlo<;>split at hhi<;>omega
     refine pA_ 5 ?_
     refine LW.re 148 (.int .i64 ((nn-1:Nat):Int)) rfl (by congr 1;omega)<|pA_ 5 ?_
     refine loopA (γ:=Nat×Nat) (fun k=>[(0,.slice (some ⟨g,0,none⟩) n cap),(1,.int .i64 ((a:Nat):Int)),(2,.int .i64 ((m:Nat):Int)),(3,.int .i64 ((b:Nat):Int)),(4,.func (.func 154) #[] #[]),(18,.int .i64 ((mid:Nat):Int)),(19,.int .i64 ((nn:Nat):Int)),(22,.int .i64 ((nn-1:Nat):Int)),(20,.int .i64 ((k.1:Nat):Int)),(21,.int .i64 ((k.2:Nat):Int))]) (fun _=>[[(g,.cells ((X++(A++(B++Y))).flatMap lkC++rest).toArray 108 (0,0))]]) (fun k=>lo≤k.1∧k.1≤k.2∧k.2≤hi∧(k.1=lo∨∃u v,(X++(A++(B++Y)))[k.1-1]? =some u∧(X++(A++(B++Y)))[nn-k.1]? =some v∧u.ver≤v.ver)∧(k.2=hi∨∃u v,(X++(A++(B++Y)))[k.2]? =some u∧(X++(A++(B++Y)))[nn-1-k.2]? =some v∧v.ver<u.ver)) (fun k=>k.2-k.1) ((lo,hi)) ⟨Nat.le_refl _,by simp only;omega,Nat.le_refl _,.inl rfl,.inl rfl⟩ fun k=>?_
     rintro⟨hk1,hk2,hk3,hk4,hk5⟩
     refine pA_ 8 ?_
     refine Cd_ rfl (fun h151=>?_) fun h151=>?_
     ·obtain⟨c,hc⟩:∃c,c=(k.1+k.2)/2:=⟨_,rfl⟩
      have hcl:a≤c∧c<m∧m≤nn-1-c∧nn-1-c<b:=by split at hlo<;>split at hhi<;>omega
      obtain⟨u,hu⟩:∃u,(X++(A++(B++Y)))[c]? =some u:=⟨_,List.getElem?_eq_getElem (by rw[hn];omega)⟩
      obtain⟨v,hv⟩:∃v,(X++(A++(B++Y)))[nn-1-c]? =some v:=⟨_,List.getElem?_eq_getElem (by rw[hn];omega)⟩
      refine Sk<|Ps<|Bk<|Sq<|Rg<|Lv Mv<|Lv Mv<|Lv Ar<|Lv Cv<|Lv (Val.shr rfl rfl om_)<|Lv Cv<|LW.re 157 (.int .i64 ((c:Nat):Int)) rfl (mid_eq k.1 k.2 _ (by split at hhi<;>omega) hc)<|Lv Av<|Nl<|Ps<|Sq<|Qt<|Qv Mv<|Qv Mv<|Qv Mv<|Qv Mv<|Qv Ar<|QW.re 162 (.int .i64 ((nn-1-c:Nat):Int)) rfl (by congr 1;omega)<|Qv Ix<|Qv (Val.loadFl (enc:=lkC) rfl Tryz.isAgg108 in_ lkC_len hv Tryz.sizeOf108)<|Qv Mv<|Qv Mv<|Qv Ix<|Qv (Val.loadFl (enc:=lkC) rfl Tryz.isAgg108 in_ lkC_len hu Tryz.sizeOf108)<|Qc (Qcall.ofF (f:=154) (caps:=[]) rfl rfl Tryz.call154 (fun w hw=>byVer_c v u w))<|Qv Cm<|Qv Nt<|Ql<|Ps ?_
      refine Cd_ rfl (fun h171=>?_) fun h171=>?_
      ·rw[cmpE_ge] at h171
       refine pA_ 6 ?_
       exact roundA ((c+1,k.2)) ⟨by simp only;omega,by simp only;omega,hk3,.inr ⟨u,v,by simpa using hu,by rw[show nn-(c+1)=nn-1-c by omega];exact hv,by omega⟩,hk5⟩ (by simp only;omega)
      ·rw[cmpE_lt] at h171
       refine pA_ 5 ?_
       exact roundA ((k.1,c)) ⟨hk1,by simp only;omega,by simp only;omega,hk4,.inr ⟨u,v,hu,hv,by omega⟩⟩ (by simp only;omega)
     ·obtain⟨s,r⟩:=k
      simp only at hk1 hk2 hk3 hk4 hk5 h151
      obtain rfl:s=r:=by omega
      obtain⟨A1,A2,B1,B2,rfl,rfl,hs1,he1,hsn,hmd,hx1,hx2⟩:=sym_core (Y:=Y) hA hB ha hmm hb hmid hnn hlo hhi hk1 hk3 hk4 hk5
      refine pA_ 10 ?_
      refine LW.re 177 (.int .i64 ((nn-s:Nat):Int)) rfl (by congr 1;omega)<|pA_ 10 ?_
      refine LW.split (d:=181) rfl (fun h181=>?_) (fun h181=>?_)
      ·replace h181:=bT h181
       refine pA_ 6 ?_
       refine Cd_ rfl (fun h185=>?_) fun h185=>?_
       ·refine pA_ 6 ?_
        refine Le (CM ([[(g,.cells ((X++((A1++A2)++((B1++B2)++Y))).flatMap lkC++rest).toArray 108 (0,0))]]) fun w hw hs=>rot_c g cap n s m (nn-s) rest (X++A1) A2 B1 (B2++Y) (X++((A1++A2)++((B1++B2)++Y))) (X++((A1++B1)++((A2++B2)++Y))) (by simp) (by simp) hn (by simp;omega) (by simp at hmm;omega) om_ (by simp at hmm;omega) om_ hm w hs) fun _ _=>pA_ 9 ?_
        refine LW.split (d:=195) rfl (fun h195=>?_) (fun h195=>?_)
        ·replace h195:=bT h195
         refine pA_ 6 ?_
         refine Cd_ rfl (fun h199=>?_) fun h199=>?_
         ·refine pA_ 6 ?_
          refine Le (CM ([[(g,.cells ((X++((A1++B1)++((A2++B2)++Y))).flatMap lkC++rest).toArray 108 (0,0))]]) fun w hw hs=>ih a s mid X A1 B1 ((A2++B2)++Y) (X++((A1++B1)++((A2++B2)++Y))) (by simp at hN hmm hb;omega) (by simp) (by rw[← hn];simp;omega) ha hs1.symm om_ om_ om_ hA.of_app.1 hB.of_app.1 w hs) fun M1 hM1=>pA_ 8 ?_
          refine LW.split (d:=209) rfl (fun h209=>?_) (fun h209=>?_)
          ·replace h209:=bT h209
           refine pA_ 6 ?_
           refine Cd_ rfl (fun h213=>?_) fun h213=>?_
           ·refine pA_ 6 ?_
            refine Le (CM ([[(g,.cells ((X++(M1++((A2++B2)++Y))).flatMap lkC++rest).toArray 108 (0,0))]]) fun w hw hs=>ih mid (nn-s) b (X++M1) A2 B2 Y (X++(M1++((A2++B2)++Y))) (by simp at hN hmm hb;omega) (by simp) (by rw[← hn];have:=hM1.1.1;simp at this⊢;omega) (by have:=hM1.1.1;simp at this⊢;omega) (by simp at hmm;omega) (by simp at hb;omega) (by simp at hmm;omega) (by simp at hb;omega) hA.of_app.2.1 hB.of_app.2.1 w hs) fun M2 hM2=>Nl<|PQ.end0 rfl fun w' hw=>?_
            rw[show(X++M1)++(M2++Y)=X++((M1++M2)++Y) from by simp] at hw
            exact⟨M1++M2,sym_fin hA hB hx1 hx2 hM1 hM2,rfl,hw⟩
           ·refine Sk<|PQ.end0 rfl fun w' hw=>?_
            have hM2:Sta Lk.ver (A2++B2) (A2++B2)∧Up Lk.ver (A2++B2):=⟨Sta.refl _,by
             have:A2.length=0∨B2.length=0:=by simp at hmm hb;omega
             rcases this with h|h
             ·have:=List.length_eq_zero_iff.1 h;subst this;exact hB.of_app.2.1
             ·have:=List.length_eq_zero_iff.1 h;subst this;rw[List.append_nil];exact hA.of_app.2.1⟩
            rw[show X++(M1++((A2++B2)++Y))=X++((M1++(A2++B2))++Y) from by simp] at hw
            exact⟨M1++(A2++B2),sym_fin hA hB hx1 hx2 hM1 hM2,rfl,hw⟩
          ·replace h209:=bF h209
           refine pA_ 8 ?_
           refine PQ.end0 rfl fun w' hw=>?_
           have hM2:Sta Lk.ver (A2++B2) (A2++B2)∧Up Lk.ver (A2++B2):=⟨Sta.refl _,by
            have:A2.length=0∨B2.length=0:=by simp at hmm hb;omega
            rcases this with h|h
            ·have:=List.length_eq_zero_iff.1 h;subst this;exact hB.of_app.2.1
            ·have:=List.length_eq_zero_iff.1 h;subst this;rw[List.append_nil];exact hA.of_app.2.1⟩
           rw[show X++(M1++((A2++B2)++Y))=X++((M1++(A2++B2))++Y) from by simp] at hw
           exact⟨M1++(A2++B2),sym_fin hA hB hx1 hx2 hM1 hM2,rfl,hw⟩
         ·refine pA_ 3 ?_
          obtain⟨M1,hM1,hE⟩:∃M1,(Sta Lk.ver (A1++B1) M1∧Up Lk.ver M1)∧A1++B1=M1:=⟨_,⟨Sta.refl _,by
           have:A1.length=0∨B1.length=0:=by omega
           rcases this with h|h
           ·have:=List.length_eq_zero_iff.1 h;subst this;exact hB.of_app.1
           ·have:=List.length_eq_zero_iff.1 h;subst this;rw[List.append_nil];exact hA.of_app.1⟩,rfl⟩
          rw[hE]
          refine pA_ 5 ?_
          refine LW.split (d:=209) rfl (fun h209=>?_) (fun h209=>?_)
          ·replace h209:=bT h209
           refine pA_ 6 ?_
           refine Cd_ rfl (fun h213=>?_) fun h213=>?_
           ·refine pA_ 6 ?_
            refine Le (CM ([[(g,.cells ((X++(M1++((A2++B2)++Y))).flatMap lkC++rest).toArray 108 (0,0))]]) fun w hw hs=>ih mid (nn-s) b (X++M1) A2 B2 Y (X++(M1++((A2++B2)++Y))) (by simp at hN hmm hb;omega) (by simp) (by rw[← hn];have:=hM1.1.1;simp at this⊢;omega) (by have:=hM1.1.1;simp at this⊢;omega) (by simp at hmm;omega) (by simp at hb;omega) (by simp at hmm;omega) (by simp at hb;omega) hA.of_app.2.1 hB.of_app.2.1 w hs) fun M2 hM2=>Nl<|PQ.end0 rfl fun w' hw=>?_
            rw[show(X++M1)++(M2++Y)=X++((M1++M2)++Y) from by simp] at hw
            exact⟨M1++M2,sym_fin hA hB hx1 hx2 hM1 hM2,rfl,hw⟩
           ·refine Sk<|PQ.end0 rfl fun w' hw=>?_
            have hM2:Sta Lk.ver (A2++B2) (A2++B2)∧Up Lk.ver (A2++B2):=⟨Sta.refl _,by
             have:A2.length=0∨B2.length=0:=by simp at hmm hb;omega
             rcases this with h|h
             ·have:=List.length_eq_zero_iff.1 h;subst this;exact hB.of_app.2.1
             ·have:=List.length_eq_zero_iff.1 h;subst this;rw[List.append_nil];exact hA.of_app.2.1⟩
            rw[show X++(M1++((A2++B2)++Y))=X++((M1++(A2++B2))++Y) from by simp] at hw
            exact⟨M1++(A2++B2),sym_fin hA hB hx1 hx2 hM1 hM2,rfl,hw⟩
          ·replace h209:=bF h209
           refine pA_ 8 ?_
           refine PQ.end0 rfl fun w' hw=>?_
           have hM2:Sta Lk.ver (A2++B2) (A2++B2)∧Up Lk.ver (A2++B2):=⟨Sta.refl _,by
            have:A2.length=0∨B2.length=0:=by simp at hmm hb;omega
            rcases this with h|h
            ·have:=List.length_eq_zero_iff.1 h;subst this;exact hB.of_app.2.1
            ·have:=List.length_eq_zero_iff.1 h;subst this;rw[List.append_nil];exact hA.of_app.2.1⟩
           rw[show X++(M1++((A2++B2)++Y))=X++((M1++(A2++B2))++Y) from by simp] at hw
           exact⟨M1++(A2++B2),sym_fin hA hB hx1 hx2 hM1 hM2,rfl,hw⟩
        ·replace h195:=bF h195
         refine pA_ 10 ?_
         obtain⟨M1,hM1,hE⟩:∃M1,(Sta Lk.ver (A1++B1) M1∧Up Lk.ver M1)∧A1++B1=M1:=⟨_,⟨Sta.refl _,by
          have:A1.length=0∨B1.length=0:=by omega
          rcases this with h|h
          ·have:=List.length_eq_zero_iff.1 h;subst this;exact hB.of_app.1
          ·have:=List.length_eq_zero_iff.1 h;subst this;rw[List.append_nil];exact hA.of_app.1⟩,rfl⟩
         rw[hE]
         refine pA_ 5 ?_
         refine LW.split (d:=209) rfl (fun h209=>?_) (fun h209=>?_)
         ·replace h209:=bT h209
          refine pA_ 6 ?_
          refine Cd_ rfl (fun h213=>?_) fun h213=>?_
          ·refine pA_ 6 ?_
           refine Le (CM ([[(g,.cells ((X++(M1++((A2++B2)++Y))).flatMap lkC++rest).toArray 108 (0,0))]]) fun w hw hs=>ih mid (nn-s) b (X++M1) A2 B2 Y (X++(M1++((A2++B2)++Y))) (by simp at hN hmm hb;omega) (by simp) (by rw[← hn];have:=hM1.1.1;simp at this⊢;omega) (by have:=hM1.1.1;simp at this⊢;omega) (by simp at hmm;omega) (by simp at hb;omega) (by simp at hmm;omega) (by simp at hb;omega) hA.of_app.2.1 hB.of_app.2.1 w hs) fun M2 hM2=>Nl<|PQ.end0 rfl fun w' hw=>?_
           rw[show(X++M1)++(M2++Y)=X++((M1++M2)++Y) from by simp] at hw
           exact⟨M1++M2,sym_fin hA hB hx1 hx2 hM1 hM2,rfl,hw⟩
          ·refine Sk<|PQ.end0 rfl fun w' hw=>?_
           have hM2:Sta Lk.ver (A2++B2) (A2++B2)∧Up Lk.ver (A2++B2):=⟨Sta.refl _,by
            have:A2.length=0∨B2.length=0:=by simp at hmm hb;omega
            rcases this with h|h
            ·have:=List.length_eq_zero_iff.1 h;subst this;exact hB.of_app.2.1
            ·have:=List.length_eq_zero_iff.1 h;subst this;rw[List.append_nil];exact hA.of_app.2.1⟩
           rw[show X++(M1++((A2++B2)++Y))=X++((M1++(A2++B2))++Y) from by simp] at hw
           exact⟨M1++(A2++B2),sym_fin hA hB hx1 hx2 hM1 hM2,rfl,hw⟩
         ·replace h209:=bF h209
          refine pA_ 8 ?_
          refine PQ.end0 rfl fun w' hw=>?_
          have hM2:Sta Lk.ver (A2++B2) (A2++B2)∧Up Lk.ver (A2++B2):=⟨Sta.refl _,by
           have:A2.length=0∨B2.length=0:=by simp at hmm hb;omega
           rcases this with h|h
           ·have:=List.length_eq_zero_iff.1 h;subst this;exact hB.of_app.2.1
           ·have:=List.length_eq_zero_iff.1 h;subst this;rw[List.append_nil];exact hA.of_app.2.1⟩
          rw[show X++(M1++((A2++B2)++Y))=X++((M1++(A2++B2))++Y) from by simp] at hw
          exact⟨M1++(A2++B2),sym_fin hA hB hx1 hx2 hM1 hM2,rfl,hw⟩
       ·refine pA_ 4 ?_
        have hz:A2=[]∨B1=[]:=by
         have:A2.length=0∨B1.length=0:=by simp at hmm;omega
         rcases this with h|h
         ·exact .inl (List.length_eq_zero_iff.1 h)
         ·exact .inr (List.length_eq_zero_iff.1 h)
        rw[show X++((A1++A2)++((B1++B2)++Y))=X++((A1++B1)++((A2++B2)++Y)) from by rcases hz with rfl|rfl<;>simp]
        refine pA_ 5 ?_
        refine LW.split (d:=195) rfl (fun h195=>?_) (fun h195=>?_)
        ·replace h195:=bT h195
         refine pA_ 6 ?_
         refine Cd_ rfl (fun h199=>?_) fun h199=>?_
         ·refine pA_ 6 ?_
          refine Le (CM ([[(g,.cells ((X++((A1++B1)++((A2++B2)++Y))).flatMap lkC++rest).toArray 108 (0,0))]]) fun w hw hs=>ih a s mid X A1 B1 ((A2++B2)++Y) (X++((A1++B1)++((A2++B2)++Y))) (by simp at hN hmm hb;omega) (by simp) (by rw[← hn];simp;omega) ha hs1.symm om_ om_ om_ hA.of_app.1 hB.of_app.1 w hs) fun M1 hM1=>pA_ 8 ?_
          refine LW.split (d:=209) rfl (fun h209=>?_) (fun h209=>?_)
          ·replace h209:=bT h209
           refine pA_ 6 ?_
           refine Cd_ rfl (fun h213=>?_) fun h213=>?_
           ·refine pA_ 6 ?_
            refine Le (CM ([[(g,.cells ((X++(M1++((A2++B2)++Y))).flatMap lkC++rest).toArray 108 (0,0))]]) fun w hw hs=>ih mid (nn-s) b (X++M1) A2 B2 Y (X++(M1++((A2++B2)++Y))) (by simp at hN hmm hb;omega) (by simp) (by rw[← hn];have:=hM1.1.1;simp at this⊢;omega) (by have:=hM1.1.1;simp at this⊢;omega) (by simp at hmm;omega) (by simp at hb;omega) (by simp at hmm;omega) (by simp at hb;omega) hA.of_app.2.1 hB.of_app.2.1 w hs) fun M2 hM2=>Nl<|PQ.end0 rfl fun w' hw=>?_
            rw[show(X++M1)++(M2++Y)=X++((M1++M2)++Y) from by simp] at hw
            exact⟨M1++M2,sym_fin hA hB hx1 hx2 hM1 hM2,rfl,hw⟩
           ·refine Sk<|PQ.end0 rfl fun w' hw=>?_
            have hM2:Sta Lk.ver (A2++B2) (A2++B2)∧Up Lk.ver (A2++B2):=⟨Sta.refl _,by
             have:A2.length=0∨B2.length=0:=by simp at hmm hb;omega
             rcases this with h|h
             ·have:=List.length_eq_zero_iff.1 h;subst this;exact hB.of_app.2.1
             ·have:=List.length_eq_zero_iff.1 h;subst this;rw[List.append_nil];exact hA.of_app.2.1⟩
            rw[show X++(M1++((A2++B2)++Y))=X++((M1++(A2++B2))++Y) from by simp] at hw
            exact⟨M1++(A2++B2),sym_fin hA hB hx1 hx2 hM1 hM2,rfl,hw⟩
          ·replace h209:=bF h209
           refine pA_ 8 ?_
           refine PQ.end0 rfl fun w' hw=>?_
           have hM2:Sta Lk.ver (A2++B2) (A2++B2)∧Up Lk.ver (A2++B2):=⟨Sta.refl _,by
            have:A2.length=0∨B2.length=0:=by simp at hmm hb;omega
            rcases this with h|h
            ·have:=List.length_eq_zero_iff.1 h;subst this;exact hB.of_app.2.1
            ·have:=List.length_eq_zero_iff.1 h;subst this;rw[List.append_nil];exact hA.of_app.2.1⟩
           rw[show X++(M1++((A2++B2)++Y))=X++((M1++(A2++B2))++Y) from by simp] at hw
           exact⟨M1++(A2++B2),sym_fin hA hB hx1 hx2 hM1 hM2,rfl,hw⟩
         ·refine pA_ 3 ?_
          obtain⟨M1,hM1,hE⟩:∃M1,(Sta Lk.ver (A1++B1) M1∧Up Lk.ver M1)∧A1++B1=M1:=⟨_,⟨Sta.refl _,by
           have:A1.length=0∨B1.length=0:=by omega
           rcases this with h|h
           ·have:=List.length_eq_zero_iff.1 h;subst this;exact hB.of_app.1
           ·have:=List.length_eq_zero_iff.1 h;subst this;rw[List.append_nil];exact hA.of_app.1⟩,rfl⟩
          rw[hE]
          refine pA_ 5 ?_
          refine LW.split (d:=209) rfl (fun h209=>?_) (fun h209=>?_)
          ·replace h209:=bT h209
           refine pA_ 6 ?_
           refine Cd_ rfl (fun h213=>?_) fun h213=>?_
           ·refine pA_ 6 ?_
            refine Le (CM ([[(g,.cells ((X++(M1++((A2++B2)++Y))).flatMap lkC++rest).toArray 108 (0,0))]]) fun w hw hs=>ih mid (nn-s) b (X++M1) A2 B2 Y (X++(M1++((A2++B2)++Y))) (by simp at hN hmm hb;omega) (by simp) (by rw[← hn];have:=hM1.1.1;simp at this⊢;omega) (by have:=hM1.1.1;simp at this⊢;omega) (by simp at hmm;omega) (by simp at hb;omega) (by simp at hmm;omega) (by simp at hb;omega) hA.of_app.2.1 hB.of_app.2.1 w hs) fun M2 hM2=>Nl<|PQ.end0 rfl fun w' hw=>?_
            rw[show(X++M1)++(M2++Y)=X++((M1++M2)++Y) from by simp] at hw
            exact⟨M1++M2,sym_fin hA hB hx1 hx2 hM1 hM2,rfl,hw⟩
           ·refine Sk<|PQ.end0 rfl fun w' hw=>?_
            have hM2:Sta Lk.ver (A2++B2) (A2++B2)∧Up Lk.ver (A2++B2):=⟨Sta.refl _,by
             have:A2.length=0∨B2.length=0:=by simp at hmm hb;omega
             rcases this with h|h
             ·have:=List.length_eq_zero_iff.1 h;subst this;exact hB.of_app.2.1
             ·have:=List.length_eq_zero_iff.1 h;subst this;rw[List.append_nil];exact hA.of_app.2.1⟩
            rw[show X++(M1++((A2++B2)++Y))=X++((M1++(A2++B2))++Y) from by simp] at hw
            exact⟨M1++(A2++B2),sym_fin hA hB hx1 hx2 hM1 hM2,rfl,hw⟩
          ·replace h209:=bF h209
           refine pA_ 8 ?_
           refine PQ.end0 rfl fun w' hw=>?_
           have hM2:Sta Lk.ver (A2++B2) (A2++B2)∧Up Lk.ver (A2++B2):=⟨Sta.refl _,by
            have:A2.length=0∨B2.length=0:=by simp at hmm hb;omega
            rcases this with h|h
            ·have:=List.length_eq_zero_iff.1 h;subst this;exact hB.of_app.2.1
            ·have:=List.length_eq_zero_iff.1 h;subst this;rw[List.append_nil];exact hA.of_app.2.1⟩
           rw[show X++(M1++((A2++B2)++Y))=X++((M1++(A2++B2))++Y) from by simp] at hw
           exact⟨M1++(A2++B2),sym_fin hA hB hx1 hx2 hM1 hM2,rfl,hw⟩
        ·replace h195:=bF h195
         refine pA_ 10 ?_
         obtain⟨M1,hM1,hE⟩:∃M1,(Sta Lk.ver (A1++B1) M1∧Up Lk.ver M1)∧A1++B1=M1:=⟨_,⟨Sta.refl _,by
          have:A1.length=0∨B1.length=0:=by omega
          rcases this with h|h
          ·have:=List.length_eq_zero_iff.1 h;subst this;exact hB.of_app.1
          ·have:=List.length_eq_zero_iff.1 h;subst this;rw[List.append_nil];exact hA.of_app.1⟩,rfl⟩
         rw[hE]
         refine pA_ 5 ?_
         refine LW.split (d:=209) rfl (fun h209=>?_) (fun h209=>?_)
         ·replace h209:=bT h209
          refine pA_ 6 ?_
          refine Cd_ rfl (fun h213=>?_) fun h213=>?_
          ·refine pA_ 6 ?_
           refine Le (CM ([[(g,.cells ((X++(M1++((A2++B2)++Y))).flatMap lkC++rest).toArray 108 (0,0))]]) fun w hw hs=>ih mid (nn-s) b (X++M1) A2 B2 Y (X++(M1++((A2++B2)++Y))) (by simp at hN hmm hb;omega) (by simp) (by rw[← hn];have:=hM1.1.1;simp at this⊢;omega) (by have:=hM1.1.1;simp at this⊢;omega) (by simp at hmm;omega) (by simp at hb;omega) (by simp at hmm;omega) (by simp at hb;omega) hA.of_app.2.1 hB.of_app.2.1 w hs) fun M2 hM2=>Nl<|PQ.end0 rfl fun w' hw=>?_
           rw[show(X++M1)++(M2++Y)=X++((M1++M2)++Y) from by simp] at hw
           exact⟨M1++M2,sym_fin hA hB hx1 hx2 hM1 hM2,rfl,hw⟩
          ·refine Sk<|PQ.end0 rfl fun w' hw=>?_
           have hM2:Sta Lk.ver (A2++B2) (A2++B2)∧Up Lk.ver (A2++B2):=⟨Sta.refl _,by
            have:A2.length=0∨B2.length=0:=by simp at hmm hb;omega
            rcases this with h|h
            ·have:=List.length_eq_zero_iff.1 h;subst this;exact hB.of_app.2.1
            ·have:=List.length_eq_zero_iff.1 h;subst this;rw[List.append_nil];exact hA.of_app.2.1⟩
           rw[show X++(M1++((A2++B2)++Y))=X++((M1++(A2++B2))++Y) from by simp] at hw
           exact⟨M1++(A2++B2),sym_fin hA hB hx1 hx2 hM1 hM2,rfl,hw⟩
         ·replace h209:=bF h209
          refine pA_ 8 ?_
          refine PQ.end0 rfl fun w' hw=>?_
          have hM2:Sta Lk.ver (A2++B2) (A2++B2)∧Up Lk.ver (A2++B2):=⟨Sta.refl _,by
           have:A2.length=0∨B2.length=0:=by simp at hmm hb;omega
           rcases this with h|h
           ·have:=List.length_eq_zero_iff.1 h;subst this;exact hB.of_app.2.1
           ·have:=List.length_eq_zero_iff.1 h;subst this;rw[List.append_nil];exact hA.of_app.2.1⟩
          rw[show X++(M1++((A2++B2)++Y))=X++((M1++(A2++B2))++Y) from by simp] at hw
          exact⟨M1++(A2++B2),sym_fin hA hB hx1 hx2 hM1 hM2,rfl,hw⟩
      ·replace h181:=bF h181
       refine pA_ 11 ?_
       have hz:A2=[]∨B1=[]:=by
        have:A2.length=0∨B1.length=0:=by simp at hmm;omega
        rcases this with h|h
        ·exact .inl (List.length_eq_zero_iff.1 h)
        ·exact .inr (List.length_eq_zero_iff.1 h)
       rw[show X++((A1++A2)++((B1++B2)++Y))=X++((A1++B1)++((A2++B2)++Y)) from by rcases hz with rfl|rfl<;>simp]
       refine pA_ 5 ?_
       refine LW.split (d:=195) rfl (fun h195=>?_) (fun h195=>?_)
       ·replace h195:=bT h195
        refine pA_ 6 ?_
        refine Cd_ rfl (fun h199=>?_) fun h199=>?_
        ·refine pA_ 6 ?_
         refine Le (CM ([[(g,.cells ((X++((A1++B1)++((A2++B2)++Y))).flatMap lkC++rest).toArray 108 (0,0))]]) fun w hw hs=>ih a s mid X A1 B1 ((A2++B2)++Y) (X++((A1++B1)++((A2++B2)++Y))) (by simp at hN hmm hb;omega) (by simp) (by rw[← hn];simp;omega) ha hs1.symm om_ om_ om_ hA.of_app.1 hB.of_app.1 w hs) fun M1 hM1=>pA_ 8 ?_
         refine LW.split (d:=209) rfl (fun h209=>?_) (fun h209=>?_)
         ·replace h209:=bT h209
          refine pA_ 6 ?_
          refine Cd_ rfl (fun h213=>?_) fun h213=>?_
          ·refine pA_ 6 ?_
           refine Le (CM ([[(g,.cells ((X++(M1++((A2++B2)++Y))).flatMap lkC++rest).toArray 108 (0,0))]]) fun w hw hs=>ih mid (nn-s) b (X++M1) A2 B2 Y (X++(M1++((A2++B2)++Y))) (by simp at hN hmm hb;omega) (by simp) (by rw[← hn];have:=hM1.1.1;simp at this⊢;omega) (by have:=hM1.1.1;simp at this⊢;omega) (by simp at hmm;omega) (by simp at hb;omega) (by simp at hmm;omega) (by simp at hb;omega) hA.of_app.2.1 hB.of_app.2.1 w hs) fun M2 hM2=>Nl<|PQ.end0 rfl fun w' hw=>?_
           rw[show(X++M1)++(M2++Y)=X++((M1++M2)++Y) from by simp] at hw
           exact⟨M1++M2,sym_fin hA hB hx1 hx2 hM1 hM2,rfl,hw⟩
          ·refine Sk<|PQ.end0 rfl fun w' hw=>?_
           have hM2:Sta Lk.ver (A2++B2) (A2++B2)∧Up Lk.ver (A2++B2):=⟨Sta.refl _,by
            have:A2.length=0∨B2.length=0:=by simp at hmm hb;omega
            rcases this with h|h
            ·have:=List.length_eq_zero_iff.1 h;subst this;exact hB.of_app.2.1
            ·have:=List.length_eq_zero_iff.1 h;subst this;rw[List.append_nil];exact hA.of_app.2.1⟩
           rw[show X++(M1++((A2++B2)++Y))=X++((M1++(A2++B2))++Y) from by simp] at hw
           exact⟨M1++(A2++B2),sym_fin hA hB hx1 hx2 hM1 hM2,rfl,hw⟩
         ·replace h209:=bF h209
          refine pA_ 8 ?_
          refine PQ.end0 rfl fun w' hw=>?_
          have hM2:Sta Lk.ver (A2++B2) (A2++B2)∧Up Lk.ver (A2++B2):=⟨Sta.refl _,by
           have:A2.length=0∨B2.length=0:=by simp at hmm hb;omega
           rcases this with h|h
           ·have:=List.length_eq_zero_iff.1 h;subst this;exact hB.of_app.2.1
           ·have:=List.length_eq_zero_iff.1 h;subst this;rw[List.append_nil];exact hA.of_app.2.1⟩
          rw[show X++(M1++((A2++B2)++Y))=X++((M1++(A2++B2))++Y) from by simp] at hw
          exact⟨M1++(A2++B2),sym_fin hA hB hx1 hx2 hM1 hM2,rfl,hw⟩
        ·refine pA_ 3 ?_
         obtain⟨M1,hM1,hE⟩:∃M1,(Sta Lk.ver (A1++B1) M1∧Up Lk.ver M1)∧A1++B1=M1:=⟨_,⟨Sta.refl _,by
          have:A1.length=0∨B1.length=0:=by omega
          rcases this with h|h
          ·have:=List.length_eq_zero_iff.1 h;subst this;exact hB.of_app.1
          ·have:=List.length_eq_zero_iff.1 h;subst this;rw[List.append_nil];exact hA.of_app.1⟩,rfl⟩
         rw[hE]
         refine pA_ 5 ?_
         refine LW.split (d:=209) rfl (fun h209=>?_) (fun h209=>?_)
         ·replace h209:=bT h209
          refine pA_ 6 ?_
          refine Cd_ rfl (fun h213=>?_) fun h213=>?_
          ·refine pA_ 6 ?_
           refine Le (CM ([[(g,.cells ((X++(M1++((A2++B2)++Y))).flatMap lkC++rest).toArray 108 (0,0))]]) fun w hw hs=>ih mid (nn-s) b (X++M1) A2 B2 Y (X++(M1++((A2++B2)++Y))) (by simp at hN hmm hb;omega) (by simp) (by rw[← hn];have:=hM1.1.1;simp at this⊢;omega) (by have:=hM1.1.1;simp at this⊢;omega) (by simp at hmm;omega) (by simp at hb;omega) (by simp at hmm;omega) (by simp at hb;omega) hA.of_app.2.1 hB.of_app.2.1 w hs) fun M2 hM2=>Nl<|PQ.end0 rfl fun w' hw=>?_
           rw[show(X++M1)++(M2++Y)=X++((M1++M2)++Y) from by simp] at hw
           exact⟨M1++M2,sym_fin hA hB hx1 hx2 hM1 hM2,rfl,hw⟩
          ·refine Sk<|PQ.end0 rfl fun w' hw=>?_
           have hM2:Sta Lk.ver (A2++B2) (A2++B2)∧Up Lk.ver (A2++B2):=⟨Sta.refl _,by
            have:A2.length=0∨B2.length=0:=by simp at hmm hb;omega
            rcases this with h|h
            ·have:=List.length_eq_zero_iff.1 h;subst this;exact hB.of_app.2.1
            ·have:=List.length_eq_zero_iff.1 h;subst this;rw[List.append_nil];exact hA.of_app.2.1⟩
           rw[show X++(M1++((A2++B2)++Y))=X++((M1++(A2++B2))++Y) from by simp] at hw
           exact⟨M1++(A2++B2),sym_fin hA hB hx1 hx2 hM1 hM2,rfl,hw⟩
         ·replace h209:=bF h209
          refine pA_ 8 ?_
          refine PQ.end0 rfl fun w' hw=>?_
          have hM2:Sta Lk.ver (A2++B2) (A2++B2)∧Up Lk.ver (A2++B2):=⟨Sta.refl _,by
           have:A2.length=0∨B2.length=0:=by simp at hmm hb;omega
           rcases this with h|h
           ·have:=List.length_eq_zero_iff.1 h;subst this;exact hB.of_app.2.1
           ·have:=List.length_eq_zero_iff.1 h;subst this;rw[List.append_nil];exact hA.of_app.2.1⟩
          rw[show X++(M1++((A2++B2)++Y))=X++((M1++(A2++B2))++Y) from by simp] at hw
          exact⟨M1++(A2++B2),sym_fin hA hB hx1 hx2 hM1 hM2,rfl,hw⟩
       ·replace h195:=bF h195
        refine pA_ 10 ?_
        obtain⟨M1,hM1,hE⟩:∃M1,(Sta Lk.ver (A1++B1) M1∧Up Lk.ver M1)∧A1++B1=M1:=⟨_,⟨Sta.refl _,by
         have:A1.length=0∨B1.length=0:=by omega
         rcases this with h|h
         ·have:=List.length_eq_zero_iff.1 h;subst this;exact hB.of_app.1
         ·have:=List.length_eq_zero_iff.1 h;subst this;rw[List.append_nil];exact hA.of_app.1⟩,rfl⟩
        rw[hE]
        refine pA_ 5 ?_
        refine LW.split (d:=209) rfl (fun h209=>?_) (fun h209=>?_)
        ·replace h209:=bT h209
         refine pA_ 6 ?_
         refine Cd_ rfl (fun h213=>?_) fun h213=>?_
         ·refine pA_ 6 ?_
          refine Le (CM ([[(g,.cells ((X++(M1++((A2++B2)++Y))).flatMap lkC++rest).toArray 108 (0,0))]]) fun w hw hs=>ih mid (nn-s) b (X++M1) A2 B2 Y (X++(M1++((A2++B2)++Y))) (by simp at hN hmm hb;omega) (by simp) (by rw[← hn];have:=hM1.1.1;simp at this⊢;omega) (by have:=hM1.1.1;simp at this⊢;omega) (by simp at hmm;omega) (by simp at hb;omega) (by simp at hmm;omega) (by simp at hb;omega) hA.of_app.2.1 hB.of_app.2.1 w hs) fun M2 hM2=>Nl<|PQ.end0 rfl fun w' hw=>?_
          rw[show(X++M1)++(M2++Y)=X++((M1++M2)++Y) from by simp] at hw
          exact⟨M1++M2,sym_fin hA hB hx1 hx2 hM1 hM2,rfl,hw⟩
         ·refine Sk<|PQ.end0 rfl fun w' hw=>?_
          have hM2:Sta Lk.ver (A2++B2) (A2++B2)∧Up Lk.ver (A2++B2):=⟨Sta.refl _,by
           have:A2.length=0∨B2.length=0:=by simp at hmm hb;omega
           rcases this with h|h
           ·have:=List.length_eq_zero_iff.1 h;subst this;exact hB.of_app.2.1
           ·have:=List.length_eq_zero_iff.1 h;subst this;rw[List.append_nil];exact hA.of_app.2.1⟩
          rw[show X++(M1++((A2++B2)++Y))=X++((M1++(A2++B2))++Y) from by simp] at hw
          exact⟨M1++(A2++B2),sym_fin hA hB hx1 hx2 hM1 hM2,rfl,hw⟩
        ·replace h209:=bF h209
         refine pA_ 8 ?_
         refine PQ.end0 rfl fun w' hw=>?_
         have hM2:Sta Lk.ver (A2++B2) (A2++B2)∧Up Lk.ver (A2++B2):=⟨Sta.refl _,by
          have:A2.length=0∨B2.length=0:=by simp at hmm hb;omega
          rcases this with h|h
          ·have:=List.length_eq_zero_iff.1 h;subst this;exact hB.of_app.2.1
          ·have:=List.length_eq_zero_iff.1 h;subst this;rw[List.append_nil];exact hA.of_app.2.1⟩
         rw[show X++(M1++((A2++B2)++Y))=X++((M1++(A2++B2))++Y) from by simp] at hw
         exact⟨M1++(A2++B2),sym_fin hA hB hx1 hx2 hM1 hM2,rfl,hw⟩
end Stb
end
end G
end Go.Proofs.YtjidffamcdcecaaGreat
namespace Go.Proofs.YtjidffamcdcecaaGreat
open Go Go.RowKit V
set_option linter.unusedVariables false
set_option maxRecDepth 100000
set_option maxHeartbeats 1000000
namespace G
section
attribute [local irreducible] V.CW V.LW V.QW V.RW V.PQ V.Val V.Eff V.Qcall
open V (str byC ownV ownG ownS ownOk)
namespace Stb
theorem insN_c (a b:Int)(hab:b≤a+1)(h0:0≤a∧a≤100000):Rz Tryz.prog 126 [.slice none 0 0,.int .i64 a,.int .i64 b,.func (.func 154) #[] #[]] (.tuple #[]):=by
 intro w
 refine Cb_ Tryz.func126 rfl Tryz.ntmps126<|pA_ 8 ?_
 refine loopA (γ:=Nat) (fun k=>[(2,.int .i64 b),(8,.int .i64 (a+1))]) (fun _=>[]) (fun k=>k=0) (fun k=>0) (0) rfl fun k hJ=>pA_ 8 ?_
 refine CW.cond rfl (fun h14=>?_) (fun h14=>?_)
 ·exact absurd (bT h14) om_
 ·replace h14:=bF h14
  refine pA_ 4 ?_
  refine PQ.end0 rfl ?_
  intro w hw;exact⟨rfl,hw.below⟩
theorem stableN_c:Rz Tryz.prog 195 [.slice none 0 0,.int .i64 (0:Nat),.func (.func 154) #[] #[]] (.tuple #[]):=by
 intro w
 refine Cb_ Tryz.func195 rfl Tryz.ntmps195<|pA_ 14 ?_
 refine loopA (γ:=Nat) (fun k=>[(0,.slice none 0 0),(1,.int .i64 (0:Nat)),(2,.func (.func 154) #[] #[]),(6,.int .i64 20),(7,.int .i64 0),(8,.int .i64 20)]) (fun _=>[]) (fun k=>k=0) (fun k=>0) (0) rfl fun k hJ=>pA_ 8 ?_
 refine CW.cond rfl (fun h13=>?_) (fun h13=>?_)
 ·exact absurd (bT h13) om_
 ·replace h13:=bF h13
  refine pA_ 11 ?_
  refine Le (Cz_ (insN_c 0 (0:Nat) om_ om_)) fun _ _=>pA_ 3 ?_
  refine loopA (γ:=Nat) (fun k=>[(1,.int .i64 (0:Nat)),(6,.int .i64 20)]) (fun _=>[]) (fun k=>k=0) (fun k=>0) (0) rfl fun k hJ=>pA_ 8 ?_
  refine CW.cond rfl (fun h30=>?_) (fun h30=>?_)
  ·exact absurd (bT h30) om_
  ·replace h30:=bF h30
   refine pA_ 4 ?_
   refine PQ.end0 rfl ?_
   intro w hw;exact⟨rfl,hw.below⟩
theorem stable_c (g cap n:Nat)(rest:List Value)(L:List Lk)(hn:L.length=n)(hm:n≤100000)(w:World)(hs:Sat [[(g,.cells ((L).flatMap lkC++rest).toArray 108 (0,0))]] w):Calls Tryz.prog 195 [.slice (some ⟨g,0,none⟩) n cap,.int .i64 ((n:Nat):Int),.func (.func 154) #[] #[]].toArray w fun e w'=>∃L':List Lk,(Sta Lk.ver L L'∧Up Lk.ver L')∧e= .returned (.tuple #[])∧Hp ⟨w,[g]⟩ [[(g,.cells ((L').flatMap lkC++rest).toArray 108 (0,0))]] w':=by
 refine Cs_ [[(g,.cells ((L).flatMap lkC++rest).toArray 108 (0,0))]] Tryz.func195 rfl Tryz.ntmps195 hs<|pA_ 14 ?_
 rw[show L=([]:List (List Lk)).flatten++L from by simp]
 refine loopA (γ:=List (List Lk)×List Lk) (fun k=>[(0,.slice (some ⟨g,0,none⟩) n cap),(1,.int .i64 ((n:Nat):Int)),(2,.func (.func 154) #[] #[]),(6,.int .i64 20),(7,.int .i64 ((k.1.flatten.length:Nat):Int)),(8,.int .i64 ((k.1.flatten.length+20:Nat):Int))]) (fun k=>[[(g,.cells ((k.1.flatten++k.2).flatMap lkC++rest).toArray 108 (0,0))]]) (fun k=>Sta Lk.ver L (k.1.flatten++k.2)∧(∀c∈k.1,Up Lk.ver c∧c.length=20)) (fun k=>n-k.1.flatten.length) (([],L)) ⟨by simpa using Sta.refl L,by simp⟩ fun k=>?_
 rintro⟨hk1,hk2⟩
 have hkl:k.1.flatten.length+k.2.length=n:=by have:=hk1.1;rw[List.length_append] at this;omega
 refine pA_ 8 ?_
 refine Cd_ rfl (fun h13=>?_) fun h13=>?_
 ·refine pA_ 4 ?_
  rw[show k.1.flatten++k.2=k.1.flatten++(k.2.take 20++k.2.drop 20) from by rw[List.take_append_drop]]
  refine pA_ 5 ?_
  refine Le (CM ([[(g,.cells ((k.1.flatten++(k.2.take 20++k.2.drop 20)).flatMap lkC++rest).toArray 108 (0,0))]]) fun w hw hs=>ins_c g cap n k.1.flatten.length (k.1.flatten.length+20) rest k.1.flatten (k.2.take 20) (k.2.drop 20) (by rw[List.take_append_drop,List.length_append];omega) rfl (by rw[List.length_take];omega) hm w hs) fun M' hM=>pA_ 12 ?_
  refine LW.re 22 (.int .i64 ((k.1.flatten.length+20+20:Nat):Int)) rfl (by congr 1)<|pA_ 3 ?_
  have hMl:M'.length=20:=by rw[hM.1.1,List.length_take];omega
  have hE:k.1.flatten++(M'++k.2.drop 20)=(k.1++[M']).flatten++k.2.drop 20:=by simp
  rw[hE]
  refine PQ.round ((k.1++[M'],k.2.drop 20)) ⟨by rw[← hE];exact hk1.trans (by rw[show k.1.flatten++k.2=k.1.flatten++(k.2.take 20++k.2.drop 20) from by rw[List.take_append_drop]];exact(Sta.refl _).app (hM.1.app (Sta.refl _))),fun c hc=>by
   rcases List.mem_append.1 hc with hc|hc
   ·exact hk2 c hc
   ·rw[List.mem_singleton] at hc;subst hc;exact⟨hM.2,hMl⟩⟩ (by simp only[List.flatten_append,List.length_append,List.flatten_cons,List.flatten_nil,List.length_nil];omega) (by exact⟨rfl,rfl,rfl,rfl,congrArg (fun z:Int=>some (Value.int .i64 z)) (by simp only[List.flatten_append,List.length_append,List.flatten_cons,List.flatten_nil,List.length_nil];omega),congrArg (fun z:Int=>some (Value.int .i64 z)) (by simp only[List.flatten_append,List.length_append,List.flatten_cons,List.flatten_nil,List.length_nil];omega),trivial⟩) pk_
 ·refine pA_ 6 ?_
  rw[show k.1.flatten++k.2=k.1.flatten++(k.2++[]) from by simp]
  refine pA_ 5 ?_
  refine Le (CM ([[(g,.cells ((k.1.flatten++(k.2++[])).flatMap lkC++rest).toArray 108 (0,0))]]) fun w hw hs=>ins_c g cap n k.1.flatten.length n rest k.1.flatten k.2 [] (by simp only[List.length_append,List.length_nil];omega) rfl om_ hm w hs) fun M' hM=>pA_ 3 ?_
  refine loopA (γ:=Nat×List Lk) (fun k=>[(0,.slice (some ⟨g,0,none⟩) n cap),(1,.int .i64 ((n:Nat):Int)),(2,.func (.func 154) #[] #[]),(6,.int .i64 ((k.1:Nat):Int))]) (fun k=>[[(g,.cells ((k.2).flatMap lkC++rest).toArray 108 (0,0))]]) (fun k=>Sta Lk.ver L k.2∧Bl Lk.ver k.1 k.2∧20≤k.1∧k.1≤2*n+40) (fun k=>n-k.1) ((20,k.1.flatten++(M'++[]))) ⟨hk1.trans ((Sta.refl _).app (by rw[List.append_nil];exact hM.1)),⟨k.1,M',by simp,hk2,hM.2,by rw[hM.1.1];omega⟩,Nat.le_refl _,by simp only;omega⟩ fun k=>?_
  rintro⟨hS,hBl,hz1,hz2⟩
  have hkl:k.2.length=n:=by rw[hS.1,hn]
  refine pA_ 8 ?_
  refine Cd_ rfl (fun h30=>?_) fun h30=>?_
  ·refine pA_ 7 ?_
   refine LW.re 32 (.int .i64 ((2*k.1:Nat):Int)) rfl (by congr 1)<|pA_ 6 ?_
   obtain⟨cs0,tl,hcs0,hc0,htl1,htl2⟩:=hBl
   rw[show k.2=([]:List (List Lk)).flatten++(cs0.flatten++tl) from by rw[hcs0];simp]
   refine CW.loop (γ:=List (List Lk)×List (List Lk)) (fun e=>[(0,.slice (some ⟨g,0,none⟩) n cap),(1,.int .i64 ((n:Nat):Int)),(2,.func (.func 154) #[] #[]),(6,.int .i64 ((k.1:Nat):Int)),(7,.int .i64 ((e.1.flatten.length:Nat):Int)),(8,.int .i64 ((e.1.flatten.length+2*k.1:Nat):Int))]) (fun e=>[[(g,.cells ((e.1.flatten++(e.2.flatten++tl)).flatMap lkC++rest).toArray 108 (0,0))]]) (fun e=>Sta Lk.ver L (e.1.flatten++(e.2.flatten++tl))∧(∀c∈e.1,Up Lk.ver c∧c.length=2*k.1)∧(∀c∈e.2,Up Lk.ver c∧c.length=k.1)) (fun e=>e.2.length) (([],cs0)) ⟨by rw[hcs0] at hS;simpa using hS,by simp,hc0⟩ (by exact⟨rfl,rfl,rfl,rfl,rfl,congrArg (fun z:Int=>some (Value.int .i64 z)) (by simp),trivial⟩) pk_ fun e=>?_
   rintro⟨he1,he2,he3⟩
   have hEl:e.1.flatten.length+(e.2.flatten.length+tl.length)=n:=by have:=he1.1;simp only[List.length_append] at this;omega
   refine pA_ 8 ?_
   refine Cd_ rfl (fun h35=>?_) fun h35=>?_
   ·obtain⟨c1,c2,cs',hcs⟩:∃c1 c2 cs',e.2=c1::c2::cs':=by
     match hE:e.2,he3 with
     |[],_=>rw[hE] at hEl;simp[-List.length_flatten] at hEl;omega
     |[c],he3=>have:=(he3 c (by simp)).2;rw[hE] at hEl;simp[-List.length_flatten] at hEl;omega
     |c1::c2::cs',_=>exact⟨c1,c2,cs',rfl⟩
    obtain⟨hU1,hl1⟩:=he3 c1 (by rw[hcs];simp)
    obtain⟨hU2,hl2⟩:=he3 c2 (by rw[hcs];simp)
    refine pA_ 4 ?_
    rw[show e.1.flatten++(e.2.flatten++tl)=e.1.flatten++(c1++(c2++(cs'.flatten++tl))) from by rw[hcs];simp]
    refine pA_ 6 ?_
    refine LW.re 40 (.int .i64 ((e.1.flatten.length+k.1:Nat):Int)) rfl (by congr 1)<|Lv Mv<|Lv Mv<|Le (CM ([[(g,.cells ((e.1.flatten++(c1++(c2++(cs'.flatten++tl)))).flatMap lkC++rest).toArray 108 (0,0))]]) fun w hw hs=>sym_c g cap n rest hm (c1.length+c2.length) e.1.flatten.length (e.1.flatten.length+k.1) (e.1.flatten.length+2*k.1) e.1.flatten c1 c2 (cs'.flatten++tl) _ (Nat.le_refl _) rfl (by rw[hcs] at hEl;simp only[List.length_append,List.flatten_cons] at hEl⊢;omega) rfl om_ om_ om_ om_ hU1 hU2 w hs) fun M' hM=>pA_ 12 ?_
    refine LW.re 47 (.int .i64 ((2*k.1:Nat):Int)) rfl (by congr 1)<|Lv Ar<|LW.re 48 (.int .i64 ((e.1.flatten.length+2*k.1+2*k.1:Nat):Int)) rfl (by congr 1)<|pA_ 3 ?_
    have hMl:M'.length=2*k.1:=by rw[hM.1.1,List.length_append];omega
    have hE:e.1.flatten++(M'++(cs'.flatten++tl))=(e.1++[M']).flatten++(cs'.flatten++tl):=by simp
    rw[hE]
    refine PQ.round ((e.1++[M'],cs')) ⟨by rw[← hE];exact he1.trans (by rw[show e.1.flatten++(e.2.flatten++tl)=e.1.flatten++(c1++(c2++(cs'.flatten++tl))) from by rw[hcs];simp];rw[show e.1.flatten++(c1++(c2++(cs'.flatten++tl)))=e.1.flatten++((c1++c2)++(cs'.flatten++tl)) from by simp];exact(Sta.refl _).app (hM.1.app (Sta.refl _))),fun c hc=>by
     rcases List.mem_append.1 hc with hc|hc
     ·exact he2 c hc
     ·rw[List.mem_singleton] at hc;subst hc;exact⟨hM.2,hMl⟩,fun c hc=>he3 c (by rw[hcs];simp[hc])⟩ (by simp only[hcs,List.length_cons];omega) (by exact⟨rfl,rfl,rfl,rfl,congrArg (fun z:Int=>some (Value.int .i64 z)) (by simp only[List.flatten_append,List.length_append,List.flatten_cons,List.flatten_nil,List.length_nil];omega),congrArg (fun z:Int=>some (Value.int .i64 z)) (by simp only[List.flatten_append,List.length_append,List.flatten_cons,List.flatten_nil,List.length_nil];omega),trivial⟩) pk_
   ·refine pA_ 11 ?_
    refine LW.re 51 (.int .i64 ((e.1.flatten.length+k.1:Nat):Int)) rfl (by congr 1)<|pA_ 10 ?_
    refine Cd_ rfl (fun h54=>?_) fun h54=>?_
    ·obtain⟨c1,hcs⟩:∃c1,e.2=[c1]:=by
      match hE:e.2,he3 with
      |[],_=>rw[hE] at hEl;simp[-List.length_flatten] at hEl;omega
      |[c],_=>exact⟨c,rfl⟩
      |c1::c2::cs',he3=>have h1:=(he3 c1 (by simp)).2;have h2:=(he3 c2 (by simp)).2;rw[hE] at hEl;simp[-List.length_flatten] at hEl;omega
     obtain⟨hU1,hl1⟩:=he3 c1 (by rw[hcs];simp)
     have hEl2:e.1.flatten.length+(c1.length+tl.length)=n:=by rw[hcs] at hEl;simpa[-List.length_flatten] using hEl
     rw[show e.1.flatten++(e.2.flatten++tl)=e.1.flatten++(c1++(tl++[])) from by rw[hcs];simp]
     refine pA_ 6 ?_
     refine Le (CM ([[(g,.cells ((e.1.flatten++(c1++(tl++[]))).flatMap lkC++rest).toArray 108 (0,0))]]) fun w hw hs=>sym_c g cap n rest hm (c1.length+tl.length) e.1.flatten.length (e.1.flatten.length+k.1) n e.1.flatten c1 tl [] _ (Nat.le_refl _) rfl (by simp only[List.length_append,List.length_nil];omega) rfl om_ om_ om_ om_ hU1 htl1 w hs) fun M' hM=>pA_ 8 ?_
     have hMl:M'.length<2*k.1:=by
      have h1:=hM.1.1
      have h2:=(he3 c1 (by rw[hcs];simp)).2
      simp at h1;omega
     have hSt:Sta Lk.ver L (e.1.flatten++(M'++[])):=by
      refine he1.trans ?_
      rw[hcs];simp only[List.flatten_cons,List.flatten_nil,List.append_nil]
      exact(Sta.refl _).app hM.1
     refine PQ.round ((2*k.1,e.1.flatten++(M'++[]))) ⟨hSt,⟨e.1,M',by simp,he2,hM.2,hMl⟩,by simp only;omega,by simp only;omega⟩ (by simp only;omega) (by exact⟨rfl,rfl,rfl,congrArg (fun z:Int=>some (Value.int .i64 z)) (by simp only;omega),trivial⟩) pk_
    ·refine pA_ 8 ?_
     have hUt:Up Lk.ver (e.2.flatten++tl)∧(e.2.flatten++tl).length<2*k.1:=by
      match hE:e.2,he3 with
      |[],_=>exact⟨by simpa using htl1,by simp;omega⟩
      |[c1],he3=>
       have h1:=he3 c1 (by simp)
       have h2:tl=[]:=List.length_eq_zero_iff.1 (by rw[hE] at hEl;simp[-List.length_flatten] at hEl;omega)
       subst h2
       exact⟨by simpa using h1.1,by simp;omega⟩
      |c1::c2::cs',he3=>
       have h1:=he3 c1 (by simp)
       have h2:=he3 c2 (by simp)
       rw[hE] at hEl;simp[-List.length_flatten] at hEl;omega
     refine PQ.round ((2*k.1,e.1.flatten++(e.2.flatten++tl))) ⟨he1,⟨e.1,e.2.flatten++tl,by simp,he2,hUt.1,hUt.2⟩,by simp only;omega,by simp only;omega⟩ (by simp only;omega) (by exact⟨rfl,rfl,rfl,congrArg (fun z:Int=>some (Value.int .i64 z)) (by simp only;omega),trivial⟩) pk_
  ·refine pA_ 4 ?_
   refine PQ.end0 rfl ?_
   intro w' hw;exact⟨k.2,⟨hS,hBl.whole om_ om_⟩,rfl,hw⟩
theorem sortStable_c (o:V.OwnO)(L:List Lk)(hok:ownOk 5 L.length (L.flatMap lkC) o)(hm:L.length≤100000):Mo Tryz.prog 153 [ownV L.length o,.func (.func 154) #[] #[]] [ownG 108 (L.flatMap lkC) o] (fun L':List Lk=>Sta Lk.ver L L'∧Up Lk.ver L') (fun _=> .tuple #[]) (fun L'=>[ownG 108 (L'.flatMap lkC) o]):=by
 intro w hs
 rcases o with _|⟨g,rest,cap⟩
 ·have h0:L.length=0:=hok.2
  obtain rfl:L=[]:=List.length_eq_zero_iff.1 h0
  refine Cb_ Tryz.func153 rfl Tryz.ntmps153<|pA_ 5 ?_
  refine Le (Cz_ stableN_c) fun _ _=>Nl<|PQ.end0 rfl ?_
  intro w' hw;exact⟨[],⟨Sta.refl _,up_nil⟩,rfl,hw.perm (.refl _)⟩
 ·refine Cs_ [[(g,.cells ((L).flatMap lkC++rest).toArray 108 (0,0))]] Tryz.func153 rfl Tryz.ntmps153 hs<|pA_ 5 ?_
  refine Le (CM ([[(g,.cells ((L).flatMap lkC++rest).toArray 108 (0,0))]]) fun w hw hs=>stable_c g cap L.length rest L rfl hm w hs) fun L' hL=>Nl<|PQ.end0 rfl ?_
  intro w' hw;exact⟨L',hL,rfl,hw⟩
end Stb
end
end G
end Go.Proofs.YtjidffamcdcecaaGreat
namespace Go.Proofs.YtjidffamcdcecaaGreat
open Go Go.RowKit V
set_option linter.unusedVariables false
set_option maxRecDepth 100000
set_option maxHeartbeats 2000000
namespace G
section
attribute [local irreducible] V.CW V.LW V.QW V.RW V.PQ V.Val V.Eff V.Qcall
open V (str byC ownV ownG ownS ownOk)
theorem x_loadU {a:Addr}{x:Int}{w:World}(hc:w.cell? a=some (.int .u64 x)):(callFunc 63 #[.pointer (some a)]).run Tryz.prog w= .ok (.value (.int .u64 x)) w:=run_call_load Tryz.func63 kr_ kr_ kr_ .u64 kr_ hc
theorem uLd_c (b o:Nat)(l:List Value)(T:TypeId)(x:Int)(w:World)(hl:l[o]? =some (.int .u64 x))(hs:Sat [[(b,.cells l.toArray T (0,0))]] w):Calls Tryz.prog 29 [.pointer (some ⟨b,o,none⟩)].toArray w fun e w'=>e= .returned (.int .u64 x)∧Below w.heap.size w w':=by
 refine Cs_ [[(b,.cells l.toArray T (0,0))]] Tryz.func29 rfl Tryz.ntmps29 hs<|pA_ 10 ?_
 refine LW.re 5 (.pointer (some ⟨b,o,none⟩)) rfl rfl<|Lv (Val.ext rfl (fun w hw=>x_loadU (V.cell_of_block (hw.own _ InS.here.mem) (by exact hl))))<|pA_ 5 ?_
 exact fr_ hs
def inU (x:Int):List Value:=[.int .u64 x]
theorem inU_map (l:List Int):l.flatMap inU=l.map (Value.int .u64):=by induction l<;>simp_all[inU]
theorem inI_map (l:List Int):l.flatMap inI=l.map (Value.int .i64):=by induction l<;>simp_all[inI]
theorem zeros_inU (m:Nat):V.repL [.int .u64 0] m=(List.replicate m 0).flatMap inU:=by rw[V.repL_one,inU_map];simp
theorem zeros_inI (m:Nat):V.repL [.int .i64 0] m=(List.replicate m 0).flatMap inI:=by rw[V.repL_one,inI_map];simp
structure Rdr where
 now:Int
 has:List Int
def rdC (hb:Nat)(r:Rdr):List Value:=[.int .u64 r.now,.slice (some ⟨hb,0,none⟩) r.has.length r.has.length]
abbrev rdS (rb hb:Nat)(r:Rdr):Sg:=[[(rb,.cells (rdC hb r).toArray 191 (0,0))],[(hb,.cells (r.has.flatMap inU).toArray 74 (0,0))]]
structure Ckk where
 now:Int
 dur:Int
 clo:Int
 owed:List Int
 noted:List Bool
 left:List Bool
 stp:Value
def ckC (wb:Nat)(c:Ckk):List Value:= .int .u64 c.now:: .int .u64 c.dur:: .int .u64 c.clo:: .slice (some ⟨wb,0,none⟩) c.owed.length c.owed.length::(c.noted.map Value.bool++(c.left.map Value.bool++[c.stp]))
abbrev ckS (cb wb:Nat)(c:Ckk):Sg:=[[(cb,.cells (ckC wb c).toArray 89 (0,0))],[(wb,.cells (c.owed.flatMap inI).toArray 3 (0,0))]]
def ckOk (th:Nat)(c:Ckk):Prop:=c.owed.length=th∧c.noted.length=258∧c.left.length=258
theorem rnew_g (th:Nat)(h1:1≤th)(h4:th≤4):Mz Tryz.prog 51 [.int .i64 (th:Nat)] (fun p:Nat×Nat=>True) (fun p=> .tuple #[.pointer (some ⟨p.1,0,none⟩),.int .i64 0]) (fun p=>rdS p.1 p.2 ⟨1,List.replicate th 0⟩):=by
 intro w
 refine Cb_ Tryz.func51 rfl Tryz.ntmps51<|pA_ 11 ?_
 refine LW.re 6 (.bool false) rfl (by congr 1;simp;omega)<|pA_ 4 ?_
 refine LW.re 10 (.bool false) rfl (by congr 1;simp;omega)<|pA_ 8 ?_
 refine Le (Eff.makeSlice (m:=th) (by_:=8) (zl:=[.int .u64 0]) rfl rfl Tryz.underlying189 kr_ Tryz.sizeOf74 (by exact Tryz.zeroValue74) kr_ rfl (by simp;omega) om_ om_) fun bm _=>?_
 rw[zeros_inU]
 refine Lv (Bd [.int .u64 0,.slice (some ⟨bm,0,none⟩) th th])<|Le XA fun b14 _=>pA_ 8 ?_
 refine Le (CM ([[(b14,.cells ([.int .u64 0,.slice (some ⟨bm,0,none⟩) th th]).toArray 191 (0,0))]]) fun w hw hs0=>aStore_c b14 0 ([.int .u64 0,.slice (some ⟨bm,0,none⟩) th th]) 191 _ (1) w rfl hs0) fun _ _=>pA_ 11 ?_
 intro w' hw;exact⟨(b14,bm),trivial,rfl,(hw.pick (ss:=[[(b14,.cells (rdC bm ⟨1,List.replicate th 0⟩).toArray 191 (0,0))],[(bm,.cells ((List.replicate th 0).flatMap inU).toArray 74 (0,0))]]) (by unfold rdC;rw[List.length_replicate];exact pk_))⟩
theorem clk_eq (wb th:Nat):clkL (.slice (some ⟨wb,0,none⟩) th th)=ckC wb ⟨0,0,0,List.replicate th 0,List.replicate 258 false,List.replicate 258 false,.nilFunc⟩:=by
 unfold clkL ckC
 rw[List.length_replicate,List.map_replicate,← List.append_assoc,List.replicate_append_replicate]
theorem knew_g (th:Nat)(h1:1≤th)(h4:th≤4)(e0:Int)(he:0≤e0∧e0≤1152921504606846976):Mz Tryz.prog 52 [.int .i64 (th:Nat),.int .u64 e0] (fun p:Nat×Nat=>True) (fun p=> .tuple #[.pointer (some ⟨p.1,0,none⟩),.int .i64 0]) (fun p=>ckS p.1 p.2 ⟨e0+1,e0,0,List.replicate th 0,List.replicate 258 false,List.replicate 258 false,.nilFunc⟩):=by
 intro w
 refine Cb_ Tryz.func52 rfl Tryz.ntmps52<|pA_ 11 ?_
 refine LW.re 8 (.bool false) rfl (by congr 1;simp;omega)<|pA_ 3 ?_
 refine LW.re 11 (.bool false) rfl (by congr 1;simp;omega)<|pA_ 11 ?_
 refine LW.re 14 (.bool false) rfl (by congr 1;simp;omega)<|pA_ 8 ?_
 refine Le (Eff.makeSlice (m:=th) (by_:=8) (zl:=[.int .i64 0]) rfl rfl Tryz.underlying23 kr_ Tryz.sizeOf3 (by exact Tryz.zeroValue3) kr_ rfl (by simp;omega) om_ om_) fun bm _=>?_
 rw[zeros_inI]
 refine Lv (Val.build (clkL (.slice (some ⟨bm,0,none⟩) th th)) zero_clk Tryz.underlying89 places89 rfl kr_)<|Le XA fun b18 _=>pA_ 9 ?_
 refine Le (CM ([[(b18,.cells (clkL (.slice (some ⟨bm,0,none⟩) th th)).toArray 89 (0,0))]]) fun w hw hs0=>aStore_c b18 1 (clkL (.slice (some ⟨bm,0,none⟩) th th)) 89 _ (e0) w rfl hs0) fun _ _=>pA_ 9 ?_
 refine LW.re 28 (.int .u64 (e0+1)) rfl (by congr 1;try (exact IntWalk.u64_in _ om_))<|Le (CM ([[(b18,.cells ((clkL (.slice (some ⟨bm,0,none⟩) th th)).set 1 (.int .u64 e0)).toArray 89 (0,0))]]) fun w hw hs0=>aStore_c b18 0 ((clkL (.slice (some ⟨bm,0,none⟩) th th)).set 1 (.int .u64 e0)) 89 _ (e0+1) w rfl hs0) fun _ _=>pA_ 10 ?_
 refine Rt2 fun w' hw=>?_
 refine⟨(b18,bm),trivial,rfl,?_⟩
 have h8:=hw.pick (ss:=[[(b18,.cells (((clkL (.slice (some ⟨bm,0,none⟩) th th)).set 1 (.int .u64 e0)).set 0 (.int .u64 (e0+1))).toArray 89 (0,0))],[(bm,.cells ((List.replicate th 0).flatMap inI).toArray 3 (0,0))]]) pk_
 rw[clk_eq] at h8
 exact h8
def slb0:Slb:=⟨0,f8,0⟩
def slbN:Slb:=⟨-1,f8,0⟩
theorem zeros_slb (m:Nat):V.repL (slC slb0) m=(List.replicate m slb0).flatMap slC:=by
 induction m with
 |zero=>rfl
 |succ k ih=>show slC slb0++V.repL (slC slb0) k=_;rw[ih];rfl
def slTo (m k:Nat):List Slb:=List.replicate k slbN++List.replicate (m-k) slb0
theorem slTo_len {m k:Nat}(h:k≤m):(slTo m k).length=m:=by unfold slTo;simp;omega
theorem slTo_at {m k:Nat}(h:k<m):(slTo m k)[k]? =some slb0:=by
 unfold slTo
 rw[List.getElem?_append_right (by simp),List.length_replicate,Nat.sub_self,List.getElem?_replicate,if_pos om_]
theorem slTo_set {m k:Nat}(h:k<m):(slTo m k).set k slbN=slTo m (k+1):=by
 unfold slTo
 rw[List.set_append_right _ _ (by simp),List.length_replicate,Nat.sub_self,show m-k=(m-(k+1))+1 by omega,List.replicate_succ,List.set_cons_zero,show List.replicate (k+1) slbN=List.replicate k slbN++[slbN] by rw[List.replicate_succ'],List.append_assoc]
 rfl
theorem slN_ok (m:Nat)(h:m≤32):plOk (List.replicate m slbN):=⟨fun s hs=>by obtain rfl:=List.eq_of_mem_replicate hs;exact⟨by decide,.inl ⟨rfl,rfl⟩⟩,by simpa using h⟩
theorem slabs_258:slabsF 258=32:=by decide
theorem pnew_g (m:Nat)(h1:1≤m)(h4:m≤32):Mz Tryz.prog 53 [.int .i64 (m:Nat)] (fun p:Nat×Nat=>True) (fun p=> .tuple #[.pointer (some ⟨p.1,0,none⟩),.int .i64 0]) (fun p=>plS p.1 p.2 (List.replicate m slbN)):=by
 intro w
 refine Cb_ Tryz.func53 rfl Tryz.ntmps53<|pA_ 11 ?_
 refine LW.re 7 (.bool false) rfl (by congr 1;simp;omega)<|Lv Mv<|Lv Mv<|Le (Cz_ (slabs_g 258)) fun _ _=>Lv Cm<|LW.re 11 (.bool false) rfl (by rw[slabs_258];congr 1;simp;omega)<|Lv Pf<|LW.re 12 (.bool false) rfl (by first|rfl|(rw[slabs_258];congr 1;simp;omega))<|pA_ 8 ?_
 refine Le (Eff.makeSlice (m:=m) (by_:=24) (zl:=slC slb0) rfl rfl Tryz.underlying192 kr_ Tryz.sizeOf197 (by exact Tryz.zeroValue197) kr_ rfl (by simp;omega) om_ om_) fun bm _=>?_
 rw[zeros_slb]
 refine Lv (Bd [.slice (some ⟨bm,0,none⟩) m m])<|Le XA fun b16 _=>pA_ 9 ?_
 refine Lv Ld<|pA_ 5 ?_
 rw[show(List.replicate m slb0).flatMap slC=(slTo m 0).flatMap slC from rfl]
 refine loopA (γ:=Nat) (fun k=>[(4,.pointer (some ⟨b16,0,none⟩)),(21,.int .i64 (m:Nat)),(22,.int .i64 (k:Nat))]) (fun k=>[[(b16,.cells [.slice (some ⟨bm,0,none⟩) m m].toArray 194 (0,0))],[(bm,.cells ((slTo m k).flatMap slC).toArray 197 (0,0))]]) (fun k=>k≤m) (fun k=>m-k) (0) (Nat.zero_le _) fun k hk=>pA_ 6 ?_
 refine Cd_ rfl (fun h23=>?_) fun h23=>?_
 ·have hk3:k<m:=by omega
  refine pA_ 14 ?_
  refine Lv Ld<|Lv Mv<|Lv (Val.indexAddrN (i:=k) rfl rfl Tryz.underlying192 Tryz.sizeOf197 om_)<|Lv (Fa 0 3)<|LeN (Eff.storeX (v:= .int .i64 (-1)) (l:=(slTo m k).flatMap slC) (l':=(slTo m (k+1)).flatMap slC) rfl rfl rfl up_ (by have h8:=st10 (slTo_at hk3) 0 (.int .i64 (-1)) (sl_setc slb0 (-1)) om_;rw[show({slb0 with c:= -1}:Slb)=slbN from rfl,slTo_set hk3] at h8;simpa[Nat.add_assoc] using h8) (by rw[V.flatMap_len slC_len,slTo_len om_];simp;omega) Tryz.sizeOf3) fun _ _=>pA_ 7 ?_
  exact roundA (k+1) om_ om_
 ·refine pA_ 14 ?_
  have hk9:k=m:=by omega
  have e9:slTo m k=List.replicate m slbN:=by rw[hk9];unfold slTo;simp
  rw[e9]
  intro w' hw
  refine⟨(b16,bm),trivial,rfl,?_⟩
  unfold plS
  rw[List.length_replicate]
  exact hw.pick pk_
theorem bnew_g:Mz Tryz.prog 55 [] (fun b:Nat=>True) (fun b=> .pointer (some ⟨b,0,none⟩)) (fun b=>[[(b,.cells [.slice none 0 0].toArray 200 (0,0))]]):=by
 intro w
 refine Cb_ Tryz.func55 rfl Tryz.ntmps55<|pA_ 7 ?_
 refine Lv (Bd [_])<|Le XA fun b2 _=>pA_ 5 ?_
 intro w' hw;exact⟨b2,trivial,rfl,hw⟩
end
end G
end Go.Proofs.YtjidffamcdcecaaGreat
namespace Go.Proofs.YtjidffamcdcecaaGreat
open Go Go.RowKit V
set_option linter.unusedVariables false
set_option maxRecDepth 100000
set_option maxHeartbeats 1000000
namespace G
section
attribute [local irreducible] V.CW V.LW V.QW V.RW V.PQ V.Val V.Eff V.Qcall
open V (str byC ownV ownG ownS ownOk)
structure Ent where
 line:Int
 cls:Int
 R:Int
 E:Int
 anti:Int
def enC (x:Ent):List Value:=[.int .i64 x.line,.int .i64 x.cls,.int .u64 x.R,.int .u64 x.E,.int .i64 x.anti]
theorem enC_len (x:Ent):(enC x).length=5:=rfl
structure Eft where
 kind:Int
 key:List UInt8
 val:List UInt8
 id:Int
 ver:Int
 ep:Int
 grp:Int
def efC (x:Eft):List Value:=[.int .i64 x.kind,str x.key,str x.val,.int .u64 x.id,.int .u64 x.ver,.int .u64 x.ep,.int .i64 x.grp]
structure ArR where
 a:Nat
 dv:Nat
 pb:Nat
 sb:Nat
 rb:Nat
 hb:Nat
 cb:Nat
 wb:Nat
 lb:Nat
 tb:Nat
 ob:Nat
 fb:Nat
 ms:List Nat
structure ArS where
 dn:Int
 m1:Int
 m2:Int
 L:List Slb
 rd:Rdr
 ck:Ckk
 bg:List Ent
 bo:V.OwnO
 Tz:Tbl
 Lz:List LvO
 rg:Rng
 ro:V.OwnO
 id:Int
 ver:Int
 ef:List Eft
 eo:V.OwnO
def arC (x:ArR)(s:ArS):List Value:=[.pointer (some ⟨x.dv,0,none⟩),.pointer (some ⟨x.pb,0,none⟩),.pointer (some ⟨x.rb,0,none⟩),.pointer (some ⟨x.cb,0,none⟩),.pointer (some ⟨x.lb,0,none⟩),.pointer (some ⟨x.tb,0,none⟩),.pointer (some ⟨x.ob,0,none⟩),.pointer (some ⟨x.fb,0,none⟩),.int .u64 s.id,.int .u64 s.ver,ownV s.ef.length s.eo]
def avC (db:Nat)(s:ArS):List Value:=[.pointer (some ⟨db,0,none⟩),.int .u32 s.dn,.int .i32 s.m1,.int .u32 s.m2]
abbrev bgS (lb:Nat)(l:List Ent)(o:V.OwnO):Sg:=[[(lb,.cells [ownV l.length o].toArray 200 (0,0))],ownG 360 (l.flatMap enC) o]
abbrev arS (x:ArR)(s:ArS)(db:Nat):Sg:=[(x.a,.cells (arC x s).toArray 77 (0,0))]::[(x.dv,.cells (avC db s).toArray 103 (0,0))]::(plS x.pb x.sb s.L++(rdS x.rb x.hb s.rd++(ckS x.cb x.wb s.ck++(bgS x.lb s.bg s.bo++(tbS x.tb x.ms s.Tz++(odS x.ob s.Lz++(rgS 180 x.fb s.rg s.ro++[ownG 357 (s.ef.flatMap efC) s.eo])))))))
structure ArOk (th n:Nat)(x:ArR)(s:ArS):Prop where
 pl:plOk s.L
 sl:s.L.length=(slabsF n).toNat
 rd:s.rd.has.length=th
 ck:ckOk th s.ck
 bg:ownOk 5 s.bg.length (s.bg.flatMap enC) s.bo
 tb:tbOk x.ms s.Tz
 od:s.Lz.length=4∧∀p∈s.Lz,lvOk p
 rg:rgO s.rg s.ro
 ef:ownOk 7 s.ef.length (s.ef.flatMap efC) s.eo
def ar0 (th n:Nat)(e0:Int):ArS:=⟨0,0,0,List.replicate (slabsF n).toNat slbN,⟨1,List.replicate th 0⟩,⟨e0+1,e0,0,List.replicate th 0,List.replicate 258 false,List.replicate 258 false,.nilFunc⟩,[],none,tb0,List.replicate 4 ([],none),⟨[],0,0⟩,none,0,0,[],none⟩
theorem slabs_rng {n:Nat}(h:10≤n):1≤slabsF n∧slabsF n≤32:=by
 unfold slabsF
 rw[if_neg om_]
 have h1:min ((n:Nat):Int) 258=if(258:Int)<n then 258 else n:=by split<;>omega
 rw[h1]
 split<;>omega
theorem ar0_ok (th n:Nat)(x:ArR)(hx:x.ms.length=8)(e0:Int)(h:10≤n):ArOk th n x (ar0 th n e0):=by
 have h8:=slabs_rng h
 refine⟨slN_ok _ om_,by simp[ar0],by simp[ar0],⟨by simp[ar0],by simp[ar0],by simp[ar0]⟩,⟨rfl,rfl⟩,⟨hx,by simp[ar0,tb0]⟩,?_,rg0_ok,⟨rfl,rfl⟩⟩
 refine⟨by simp[ar0],fun p hp=>?_⟩
 obtain rfl:=List.eq_of_mem_replicate hp
 exact⟨rfl,rfl⟩
theorem made_g (xd:DvR)(D:List Ce)(k:Cnt)(hD:10≤D.length∧D.length≤1000)(th:Nat)(h1:1≤th)(h4:th≤4)(e0:Int)(he:0≤e0∧e0≤1152921504606846976):Mo Tryz.prog 25 [.pointer (some ⟨xd.db,0,none⟩),.int .i64 (th:Nat),.int .u64 e0] (dvS xd D k) (fun x:ArR=>x.ms.length=8) (fun x=> .tuple #[.pointer (some ⟨x.a,0,none⟩),.int .i64 0]) (fun x=>arS x (ar0 th D.length e0) xd.db++dvS xd D k):=by
 intro w hs
 have hsr:=slabs_rng hD.1
 refine Ca_ Tryz.func25 rfl Tryz.ntmps25 hs<|pA_ 9 ?_
 refine Le (Cn_ (rnew_g th h1 h4)) fun a1 _=>pA_ 14 ?_
 refine Le (CV fun w hw=>lines_g xd.db D.length xd.cap _ (ctC k) w hw.at) fun _ _=>Lv Cm<|LW.re 23 (.bool false) rfl (by congr 1;simp;omega)<|Lv Pf<|LW.re 24 (.bool false) rfl (by rfl)<|pA_ 9 ?_
 refine Le (Cn_ (knew_g th h1 h4 e0 he)) fun a2 _=>pA_ 20 ?_
 refine Le (CV fun w hw=>lines_g xd.db D.length xd.cap _ (ctC k) w hw.at) fun _ _=>Le (Cz_ (slabs_g (D.length:Nat))) fun _ _=>LW.re 37 (.int .i64 ((slabsF D.length).toNat:Nat)) rfl (by congr 1;omega)<|Le (Cn_ (pnew_g (slabsF D.length).toNat om_ om_)) fun a3 _=>pA_ 10 ?_
 refine Lv (Bd [_,_,_,_])<|Le XA fun b43 _=>pA_ 3 ?_
 refine Le (Cn_ bnew_g) fun a4 _=>Le (Cn_ tnew_c) fun a5 h5=>Le (Cn_ onew_c) fun a6 _=>Le (Cn_ lnew_c) fun a7 _=>Lv (Bd [_,_,_,_,_,_,_,_,_,_,_])<|Le XA fun b52 _=>pA_ 5 ?_
 refine Rt2 fun w' hw=>?_
 refine⟨⟨b52,b43,a3.1,a3.2,a1.1,a1.2,a2.1,a2.2,a4,a5.1,a6,a7,a5.2⟩,h5,rfl,?_⟩
 exact(hw.pick (ss:=[(b52,.cells (arC ⟨b52,b43,a3.1,a3.2,a1.1,a1.2,a2.1,a2.2,a4,a5.1,a6,a7,a5.2⟩ (ar0 th D.length e0)).toArray 77 (0,0))]::[(b43,.cells (avC xd.db (ar0 th D.length e0)).toArray 103 (0,0))]::(plS a3.1 a3.2 (List.replicate (slabsF D.length).toNat slbN)++(rdS a1.1 a1.2 ⟨1,List.replicate th 0⟩++(ckS a2.1 a2.2 ⟨e0+1,e0,0,List.replicate th 0,List.replicate 258 false,List.replicate 258 false,.nilFunc⟩++([[(a4,.cells [.slice none 0 0].toArray 200 (0,0))]]++(tbS a5.1 a5.2 tb0++(odS a6 (List.replicate 4 ([],none))++(rgS 180 a7 ⟨[],0,0⟩ none++dvS xd D k)))))))) pk_).perm (.refl _)
end
section
attribute [local irreducible] V.CW V.LW V.QW V.RW V.PQ V.Val V.Eff V.Qcall
open V (str byC ownV ownG ownS ownOk)
structure Fnd where
 line:Int
 good:Bool
 b:Blk
 deriving DecidableEq
def fdC (f:Fnd):List Value:=[.int .i64 f.line,.bool f.good,.int .i64 f.b.cls,.int .i64 f.b.kind,.int .u64 f.b.id,.int .u64 f.b.ver,.int .u64 f.b.ep,str f.b.key,str f.b.val]
theorem fdC_len (f:Fnd):(fdC f).length=9:=rfl
def fd0:Fnd:=⟨0,false,blk0⟩
def fdOk (f:Fnd):Prop:=f.b.key.length≤100000∧f.b.val.length≤100000
def lkOf (f:Fnd):Lk:=⟨f.b.key,f.b.id,f.b.ver,f.line,f.b.cls⟩
structure OvC where
 L:List Slb
 Tz:Tbl
 D:List (List Lk)
 q:List Lk
 id:Int
 ver:Int
def ovBad (L:List Slb)(f:Fnd):Bool:= !f.good|| !mayF f.b||(decide (f.b.kind≠1)&&decide (f.b.kind≠2))||decide ((markF L f.line f.b.cls).2≠0)
def imax (a b:Int):Int:=if a<b then b else a
def ov1 (c:OvC)(f:Fnd):Option OvC:=
 if ovBad c.L f=true then none else
 if f.b.kind=2 then some ⟨(markF c.L f.line f.b.cls).1,c.Tz,c.D,c.q++[lkOf f],imax c.id f.b.id,imax c.ver f.b.ver⟩ else
 if(tGet c.Tz f.b.key).isSome then none else some ⟨(markF c.L f.line f.b.cls).1,tSet c.Tz (lkOf f),oset c.D (lkOf f),c.q,imax c.id f.b.id,imax c.ver f.b.ver⟩
def ovAll:OvC→List Fnd→Option OvC
 |c,[]=>some c
 |c,f::r=>match ov1 c f with
  |none=>none
  |some c'=>ovAll c' r
theorem ovAll_app:∀(l r:List Fnd) (c:OvC),ovAll c (l++r)=(ovAll c l).bind fun c'=>ovAll c' r
 |[],r,c=>rfl
 |f::l,r,c=>by
  show(match ov1 c f with|none=>none|some c'=>ovAll c' (l++r))=Option.bind (match ov1 c f with|none=>none|some c'=>ovAll c' l) _
  cases ov1 c f with
  |none=>rfl
  |some c'=>exact ovAll_app l r c'
theorem ovAll_snoc {l:List Fnd}{i:Nat}{f:Fnd}{c c':OvC}(h:ovAll c (l.take i)=some c')(hf:l[i]? =some f):ovAll c (l.take (i+1))=ov1 c' f:=by
 rw[List.take_add_one,hf,Option.toList_some,ovAll_app,h]
 show(match ov1 c' f with|none=>none|some c'=>some c')=_
 cases ov1 c' f<;>rfl
theorem ovAll_stop {l:List Fnd}{i:Nat}{f:Fnd}{c c':OvC}(h:ovAll c (l.take i)=some c')(hf:l[i]? =some f)(hn:ov1 c' f=none):ovAll c l=none:=by
 have h8:=ovAll_snoc h hf
 rw[hn] at h8
 have e:l=l.take (i+1)++l.drop (i+1):=(List.take_append_drop _ _).symm
 rw[e,ovAll_app,h8];rfl
def ovC0 (n:Nat):OvC:=⟨List.replicate (slabsF n).toNat slbN,tb0,List.replicate 4 [],[],0,0⟩
def ovFar (Fs:List Fnd):Bool:=Fs.any fun f=>decide (1152921504606846976<f.b.id)||decide (1152921504606846976<f.b.ver)
def ovE (n:Nat)(Fs:List Fnd):Int:=if ovFar Fs=true then 10 else if(ovAll (ovC0 n) Fs).isNone then 3 else 0
def ovS (th n:Nat)(e0:Int)(c:OvC)(Lz:List LvO)(rg:Rng)(ro:V.OwnO):ArS:={ar0 th n e0 with L:=c.L,Tz:=c.Tz,Lz:=Lz,id:=c.id,ver:=c.ver,rg:=rg,ro:=ro}
structure OvJ (n:Nat)(Fs:List Fnd)(k:Nat)(c:OvC)(Lz:List LvO)(o:V.OwnO):Prop where
 all:ovAll (ovC0 n) (Fs.take k)=some c
 pl:plOk c.L
 tb:c.Tz.length=8
 od:Lz.map Prod.fst=c.D
 o4:Lz.length=4
 ok:∀p∈Lz,lvOk p
 le:∀p∈Lz,p.1.length≤k
 own:ownOk 5 c.q.length (c.q.flatMap lkC) o
 ql:c.q.length≤k
 sl:c.L.length=(slabsF n).toNat
theorem markF_len (L:List Slb)(line c:Int):(markF L line c).1.length=L.length:=by
 unfold markF
 split
 ·rfl
 ·split
  ·rfl
  ·split
   ·rfl
   ·rw[List.length_set]
theorem ovJ0 (n:Nat)(h:10≤n)(Fs:List Fnd):OvJ n Fs 0 (ovC0 n) (List.replicate 4 ([],none)) none:=by
 have h8:=slabs_rng h
 refine⟨by rw[List.take_zero];rfl,slN_ok _ om_,rfl,rfl,rfl,fun p hp=>?_,fun p hp=>?_,⟨rfl,rfl⟩,Nat.zero_le _,by simp[ovC0]⟩
 ·obtain rfl:=List.eq_of_mem_replicate hp;exact⟨rfl,rfl⟩
 ·obtain rfl:=List.eq_of_mem_replicate hp;exact Nat.le_refl _
theorem oset_le {D:List (List Lk)}{x:Lk}{k:Nat}(h:∀l∈D,l.length≤k):∀l∈oset D x,l.length≤k+1:=by
 intro l hl
 unfold oset setTo at hl
 rw[List.mem_mapIdx] at hl
 obtain⟨i,hi,rfl⟩:=hl
 have h8:=h _ (List.getElem_mem hi)
 split
 ·have:=setL_len D[i] x;omega
 ·omega
theorem OvJ.q {n:Nat}{Fs:List Fnd}{k:Nat}{c:OvC}{Lz:List LvO}{o o2:V.OwnO}{f:Fnd}(h:OvJ n Fs k c Lz o)(hf:Fs[k]? =some f)(hb:ovBad c.L f=false)(hk:f.b.kind=2)(ho:ownOk 5 (c.q.length+1) (c.q.flatMap lkC++lkC (lkOf f)) o2):OvJ n Fs (k+1) ⟨(markF c.L f.line f.b.cls).1,c.Tz,c.D,c.q++[lkOf f],imax c.id f.b.id,imax c.ver f.b.ver⟩ Lz o2:=by
 refine⟨?_,markF_ok h.pl,h.tb,h.od,h.o4,h.ok,fun p hp=>by have:=h.le p hp;omega,?_,?_,?_⟩
 ·rw[ovAll_snoc h.all hf];unfold ov1;rw[if_neg (by rw[hb];decide),if_pos hk]
 ·simp only[List.length_append,List.length_singleton,List.flatMap_append,List.flatMap_singleton];exact ho
 ·simp only[List.length_append,List.length_singleton];have:=h.ql;omega
 ·exact(markF_len _ _ _).trans h.sl
theorem OvJ.t {n:Nat}{Fs:List Fnd}{k:Nat}{c:OvC}{Lz Lv2:List LvO}{o:V.OwnO}{f:Fnd}(h:OvJ n Fs k c Lz o)(hf:Fs[k]? =some f)(hb:ovBad c.L f=false)(hk:f.b.kind≠2)(hg:(tGet c.Tz f.b.key).isSome=false)(hv:(Lv2.map Prod.fst=oset (Lz.map Prod.fst) (lkOf f))∧Lv2.length=4∧∀p∈Lv2,lvOk p):OvJ n Fs (k+1) ⟨(markF c.L f.line f.b.cls).1,tSet c.Tz (lkOf f),oset c.D (lkOf f),c.q,imax c.id f.b.id,imax c.ver f.b.ver⟩ Lv2 o:=by
 refine⟨?_,markF_ok h.pl,(tSet_len _ _).trans h.tb,by rw[hv.1,h.od],hv.2.1,hv.2.2,?_,h.own,Nat.le_succ_of_le h.ql,(markF_len _ _ _).trans h.sl⟩
 ·rw[ovAll_snoc h.all hf];unfold ov1;rw[if_neg (by rw[hb];decide),if_neg hk,if_neg (by rw[hg];decide)]
 ·intro p hp
  have h8:=oset_le (x:=lkOf f) (D:=Lz.map Prod.fst) (k:=k) (fun l hl=>by
   obtain⟨q,hq,rfl⟩:=List.mem_map.1 hl
   exact h.le q hq) p.1 (by rw[← hv.1];exact List.mem_map_of_mem hp)
  exact h8
theorem OvJ.bad {n:Nat}{Fs:List Fnd}{k:Nat}{c:OvC}{Lz:List LvO}{o:V.OwnO}{f:Fnd}(h:OvJ n Fs k c Lz o)(hf:Fs[k]? =some f)(hfar:ovFar Fs=false)(hb:ovBad c.L f=true):ovE n Fs=3:=by
 unfold ovE
 rw[if_neg (by rw[hfar];decide),ovAll_stop h.all hf (by unfold ov1;rw[if_pos hb])];rfl
theorem OvJ.had {n:Nat}{Fs:List Fnd}{k:Nat}{c:OvC}{Lz:List LvO}{o:V.OwnO}{f:Fnd}(h:OvJ n Fs k c Lz o)(hf:Fs[k]? =some f)(hfar:ovFar Fs=false)(hb:ovBad c.L f=false)(hk:f.b.kind≠2)(hg:(tGet c.Tz f.b.key).isSome=true):ovE n Fs=3:=by
 unfold ovE
 rw[if_neg (by rw[hfar];decide),ovAll_stop h.all hf (by unfold ov1;rw[if_neg (by rw[hb];decide),if_neg hk,if_pos hg])];rfl
theorem OvJ.end_ {n:Nat}{Fs:List Fnd}{c:OvC}{Lz:List LvO}{o:V.OwnO}(h:OvJ n Fs Fs.length c Lz o)(hfar:ovFar Fs=false):ovAll (ovC0 n) Fs=some c∧ovE n Fs=0:=by
 have h8:=h.all
 rw[List.take_length] at h8
 refine⟨h8,?_⟩
 unfold ovE
 rw[if_neg (by rw[hfar];decide),h8];rfl
theorem push_le (r:Rng)(x:Lk):(r.push x).R.length≤r.R.length+1:=by
 unfold Rng.push
 split
 ·simp only[List.length_append,List.length_drop,List.length_take,List.length_singleton];omega
 ·rw[List.length_set];omega
theorem far_snoc {Fs:List Fnd}{k:Nat}{f:Fnd}(h:∀g∈Fs.take k,¬(1152921504606846976<g.b.id)∧¬(1152921504606846976<g.b.ver))(hf:Fs[k]? =some f)(h1:¬(1152921504606846976<f.b.id))(h2:¬(1152921504606846976<f.b.ver)):∀g∈Fs.take (k+1),¬(1152921504606846976<g.b.id)∧¬(1152921504606846976<g.b.ver):=by
 intro g hg
 rw[List.take_add_one,hf,Option.toList_some,List.mem_append,List.mem_singleton] at hg
 rcases hg with hg|rfl
 ·exact h g hg
 ·exact⟨h1,h2⟩
theorem far_no {Fs:List Fnd}(h:∀g∈Fs,¬(1152921504606846976<g.b.id)∧¬(1152921504606846976<g.b.ver)):ovFar Fs=false:=by
 unfold ovFar
 rw[List.any_eq_false]
 intro g hg
 have:=h g hg
 simp[this.1,this.2]
theorem far_yes {Fs:List Fnd}{f:Fnd}(hf:f∈Fs)(h:1152921504606846976<f.b.id∨1152921504606846976<f.b.ver)(n:Nat):ovE n Fs=10:=by
 unfold ovE
 rw[if_pos]
 unfold ovFar
 rw[List.any_eq_true]
 exact⟨f,hf,by simpa using h⟩
def ovSg (xd:DvR)(D:List Ce)(k:Cnt)(r:Option (ArR×ArS)):Sg:=match r with
 |none=>dvS xd D k
 |some p=>arS p.1 p.2 xd.db++dvS xd D k
def ovV (r:Option (ArR×ArS)):Value:=match r with
 |none=> .pointer none
 |some p=> .pointer (some ⟨p.1.a,0,none⟩)
structure OvP (th n:Nat)(e0:Int)(Fs:List Fnd)(r:Option (ArR×ArS)):Prop where
 ok:r.isSome=decide (ovE n Fs=0)
 get:∀x s,r=some (x,s)→∃c,ovAll (ovC0 n) Fs=some c∧∃Lz rg ro,s=ovS th n e0 c Lz rg ro∧Lz.map Prod.fst=c.D∧Stb.Sta Lk.ver c.q (rgQ rg)∧Stb.Up Lk.ver (rgQ rg)∧ArOk th n x s
theorem over_g (xd:DvR)(D:List Ce)(k:Cnt)(hD:10≤D.length∧D.length≤1000)(th:Nat)(h1:1≤th)(h4:th≤4)(e0:Int)(he:0≤e0∧e0≤1152921504606846976)(Fs:List Fnd)(p:Option Addr)(cp:Nat)(hF:Fs.length≤800)(hk:∀f∈Fs,fdOk f)(w:World)(hp:V.slAt w p 9 fdC Fs)(hpd:∀b o,p=some ⟨b,o,none⟩→b∉V.ids (dvS xd D k))(hs:Sat (dvS xd D k) w):Calls Tryz.prog 105 [.pointer (some ⟨xd.db,0,none⟩),.int .i64 (th:Nat),.int .u64 e0,.slice p Fs.length cp].toArray w fun e w'=>∃r:Option (ArR×ArS),OvP th D.length e0 Fs r∧e= .returned (.tuple #[ovV r,.int .i64 (ovE D.length Fs)])∧Hp ⟨w,V.ids ((dvS xd D k))⟩ (ovSg xd D k r) w':=by
 have hD1:=hD.1
 refine Cs_ (dvS xd D k) Tryz.func105 rfl Tryz.ntmps105 hs<|pA_ 21 ?_
 refine Le (Cm_ (made_g xd D k hD th h1 h4 e0 he)) fun x hms=>pA_ 26 ?_
 refine V.CW.perm (sg':=(arS x (ovS th D.length e0 (ovC0 D.length) (List.replicate 4 ([],none)) ⟨[],0,0⟩ none) xd.db++dvS xd D k)) ?_ (.refl _)
 refine loopA (γ:=Nat) (fun i=>[(3,.slice p Fs.length cp),(10,.pointer (some ⟨x.a,0,none⟩)),(33,.slice p Fs.length cp),(34,.int .i64 (Fs.length:Nat)),(35,.int .i64 (i:Nat))]) (fun _=>(arS x (ovS th D.length e0 (ovC0 D.length) (List.replicate 4 ([],none)) ⟨[],0,0⟩ none) xd.db++dvS xd D k)) (fun i=>i≤Fs.length∧∀g∈Fs.take i,¬(1152921504606846976<g.b.id)∧¬(1152921504606846976<g.b.ver)) (fun i=>Fs.length-i) (0) ⟨Nat.zero_le _,by simp⟩ fun i=>?_
 rintro⟨hi1,hi2⟩
 refine pA_ 6 ?_
 refine Cd_ rfl (fun h36=>?_) fun h36=>?_
 ·obtain⟨pb,po,f,rfl,hpb,hf,hpr⟩:=V.slAt_at hp rfl (k:=i) om_
  have hnd:=hpd pb po rfl
  have hfo:=hk f (List.mem_of_getElem? hf)
  refine pA_ 7 ?_
  refine Lv (Val.loadOA (cs:=fdC f) rfl Tryz.isAgg146 hpb hnd (hpr i f hf) (by exact Tryz.sizeOf146))<|Le AA fun b13 _=>LeN StW fun _ _=>pA_ 6 ?_
  refine Lv (Ld (v:= .int .u64 f.b.id))<|Lv Cm<|Lv Mv ?_
  refine LW.split (d:=43) rfl (fun h43=>?_) (fun h43=>?_)
  ·replace h43:=bT h43
   refine pA_ 21 ?_
   have e8:ovE D.length Fs=10:=far_yes (List.mem_of_getElem? hf) (.inl om_) _
   intro w' hw;exact⟨none,⟨by rw[e8];rfl,fun x s h=>by cases h⟩,by rw[e8];rfl,hw.pick pk_⟩
  ·replace h43:=bF h43
   refine Lv (Fa 2 144)<|Lv (Fa 3 48)<|Lv (Ld (v:= .int .u64 f.b.ver))<|pA_ 4 ?_
   refine Cd_ rfl (fun h48=>?_) fun h48=>?_
   ·refine pA_ 13 ?_
    have e8:ovE D.length Fs=10:=far_yes (List.mem_of_getElem? hf) (.inr om_) _
    intro w' hw;exact⟨none,⟨by rw[e8];rfl,fun x s h=>by cases h⟩,by rw[e8];rfl,hw.pick pk_⟩
   ·refine pA_ 7 ?_
    exact roundA (i+1) ⟨by omega,far_snoc hi2 hf om_ om_⟩ om_
 ·refine pA_ 19 ?_
  have hi9:i=Fs.length:=by omega
  rw[hi9,List.take_length] at hi2
  have hfar:=far_no hi2
  refine V.CW.perm (sg':=[]::(arS x (ovS th D.length e0 (ovC0 D.length) (List.replicate 4 ([],none)) ⟨[],0,0⟩ none) xd.db++dvS xd D k)) ?_ (.refl _)
  refine loopA (γ:=Nat×OvC×List LvO×V.OwnO) (fun j=>[(10,.pointer (some ⟨x.a,0,none⟩)),(14,ownV j.2.1.q.length j.2.2.2),(50,.slice p Fs.length cp),(51,.int .i64 (Fs.length:Nat)),(52,.int .i64 (j.1:Nat))]) (fun j=>ownG 108 (j.2.1.q.flatMap lkC) j.2.2.2::(arS x (ovS th D.length e0 j.2.1 j.2.2.1 ⟨[],0,0⟩ none) xd.db++dvS xd D k)) (fun j=>j.1≤Fs.length∧OvJ D.length Fs j.1 j.2.1 j.2.2.1 j.2.2.2) (fun j=>Fs.length-j.1) ((0,ovC0 D.length,List.replicate 4 ([],none),none)) ⟨Nat.zero_le _,ovJ0 _ hD1 Fs⟩ fun j=>?_
  rintro⟨hj1,hJ⟩
  refine pA_ 6 ?_
  refine Cd_ rfl (fun h53=>?_) fun h53=>?_
  ·obtain⟨pb,po,f,rfl,hpb,hf,hpr⟩:=V.slAt_at hp rfl (k:=j.1) om_
   have hnd:=hpd pb po rfl
   have hfo:=hk f (List.mem_of_getElem? hf)
   have hql:=hJ.ql
   refine pA_ 7 ?_
   refine Lv (Val.loadOA (cs:=fdC f) rfl Tryz.isAgg146 hpb hnd (hpr j.1 f hf) (by exact Tryz.sizeOf146))<|Le AA fun b16 _=>LeN StW fun _ _=>pA_ 5 ?_
   refine Lv (La (blC f.b))<|Le AA fun b17 _=>LeN StW fun _ _=>pA_ 4 ?_
   refine Dr ([[(b16,.cells (fdC f).toArray 146 (0,0))],[(b17,.cells (blC f.b).toArray 144 (0,0))],[(x.a,.cells (arC x (ovS th D.length e0 j.2.1 j.2.2.1 ⟨[],0,0⟩ none)).toArray 77 (0,0))]])<|Rv 0 rfl (Fa 1 4)<|Rv 1 rfl (Ld (v:= .bool f.good))<|pR_ [2,3] ?_
   refine RW.split (d:=61) rfl (fun h61=>?_) (fun h61=>?_)
   ·replace h61:=bT h61
    refine pR_ [4,5,6,7,8,9,10,11,12,13,14,15,16,17,18,19,20,21,22,23,24,25,26,27,28,29] ?_
    refine pA_ 17 ?_
    have hbad:ovBad j.2.1.L f=true:=by unfold ovBad;first|(simp[h61];done)|(simp[h61,h66];done)|(simp[h61,h66,h70,h76];done)|(simp[h61,h66,h70,h76,h87];done)|(simp[h61,h66,h70,h87];done)
    have e8:ovE D.length Fs=3:=hJ.bad hf hfar hbad
    intro w' hw;exact⟨none,⟨by rw[e8];rfl,fun x s h=>by cases h⟩,by rw[e8];rfl,hw.pick pk_⟩
   ·replace h61:=bF h61
    refine Rv 4 rfl (Lw (l:=blC f.b))<|Re 5 rfl (Cz_ (may_c f.b hfo)) fun _ _=>pR_ [6,7,8] ?_
    refine RW.split (d:=66) rfl (fun h66=>?_) (fun h66=>?_)
    ·replace h66:=bT h66
     refine pR_ [9,10,11,12,13,14,15,16,17,18,19,20,21,22,23,24,25,26,27,28,29] ?_
     refine pA_ 17 ?_
     have hbad:ovBad j.2.1.L f=true:=by unfold ovBad;first|(simp[h61];done)|(simp[h61,h66];done)|(simp[h61,h66,h70,h76];done)|(simp[h61,h66,h70,h76,h87];done)|(simp[h61,h66,h70,h87];done)
     have e8:ovE D.length Fs=3:=hJ.bad hf hfar hbad
     intro w' hw;exact⟨none,⟨by rw[e8];rfl,fun x s h=>by cases h⟩,by rw[e8];rfl,hw.pick pk_⟩
    ·replace h66:=bF h66
     refine Rv 9 rfl (Fa 1 3)<|Rv 10 rfl (Ld (v:= .int .i64 f.b.kind))<|pR_ [11,12] ?_
     refine RW.split (d:=70) rfl (fun h70=>?_) (fun h70=>?_)
     ·replace h70:=bT h70
      refine Rv 13 rfl (Fa 1 3)<|Rv 14 rfl (Ld (v:= .int .i64 f.b.kind))<|pR_ [15,16,17,18] ?_
      refine RW.split (d:=76) rfl (fun h76=>?_) (fun h76=>?_)
      ·replace h76:=bT h76
       refine pR_ [19,20,21,22,23,24,25,26,27,28,29] ?_
       refine pA_ 17 ?_
       have hbad:ovBad j.2.1.L f=true:=by unfold ovBad;first|(simp[h61];done)|(simp[h61,h66];done)|(simp[h61,h66,h70,h76];done)|(simp[h61,h66,h70,h76,h87];done)|(simp[h61,h66,h70,h87];done)
       have e8:ovE D.length Fs=3:=hJ.bad hf hfar hbad
       intro w' hw;exact⟨none,⟨by rw[e8];rfl,fun x s h=>by cases h⟩,by rw[e8];rfl,hw.pick pk_⟩
      ·replace h76:=bF h76
       refine pR_ [19,20,21] ?_
       refine Rv 22 rfl (Ld (v:= .pointer (some ⟨x.pb,0,none⟩)))<|Rv 23 rfl (Fa 0 3)<|Rv 24 rfl (Ld (v:= .int .i64 f.line))<|Rv 25 rfl (Fa 0 3)<|Rv 26 rfl (Ld (v:= .int .i64 f.b.cls))<|Re 27 rfl (Cm_ (mark_c x.pb x.sb j.2.1.L f.line f.b.cls hJ.pl)) fun _ _=>pR_ [28,29] ?_
       refine Rd<|Ps ?_
       refine Cd_ rfl (fun h87=>?_) fun h87=>?_
       ·refine pA_ 14 ?_
        have hbad:ovBad j.2.1.L f=true:=by unfold ovBad;first|(simp[h61];done)|(simp[h61,h66];done)|(simp[h61,h66,h76];done)|(simp[h61,h66,h76,h87];done)|(simp[h61,h66,h70,h87];done)
        have e8:ovE D.length Fs=3:=hJ.bad hf hfar hbad
        intro w' hw;exact⟨none,⟨by rw[e8];rfl,fun x s h=>by cases h⟩,by rw[e8];rfl,hw.pick pk_⟩
       ·have hbad:ovBad j.2.1.L f=false:=by unfold ovBad;first|simp[h61,h66,h76,h87]|simp[h61,h66,h70,h87]
        refine pA_ 5 ?_
        refine Lv (Ld (v:=str f.b.key))<|Lv (Fa 2 48)<|Lv (Ld (v:= .int .u64 f.b.id))<|Lv (Fa 3 48)<|Lv (Ld (v:= .int .u64 f.b.ver))<|Lv (Fa 0 3)<|Lv (Ld (v:= .int .i64 f.line))<|Lv (Fa 0 3)<|Lv (Ld (v:= .int .i64 f.b.cls))<|Lv (Bd (lkC (lkOf f)))<|Le AA fun b18 _=>LeN StW fun _ _=>pA_ 6 ?_
        refine Lv (Ld (v:= .int .i64 f.b.kind))<|pA_ 3 ?_
        refine Cd_ rfl (fun h101=>?_) fun h101=>?_
        ·refine Rg<|Lv Mv<|Lv (Lw (l:=lkC (lkOf f)))<|Le (Eff.buildSlice (rfl) [_,_,_,_,_] Tryz.underlying104 Tryz.sizeOf108 (by exact Tryz.zeroValue108) rfl rfl rfl rfl (by rfl)) fun b104 _=>Le (Eff.appendAny (lkC (lkOf f)) (sz:=5) (bytes:=48) (z:= .agg #[.string ⟨#[]⟩,.int .u64 0,.int .u64 0,.int .i64 0,.int .i64 0]) (xs:=j.2.1.q.flatMap lkC) (m0:=j.2.1.q.length) (o:=j.2.2.2) (m:=1) (pk:=[ownG 108 (j.2.1.q.flatMap lkC) (j.2.2.2)]) rfl rfl Tryz.underlying104 kr_ rfl om_ pk_ (by simp) hJ.own (by rfl) (fun hm0=>⟨b104,0,rfl,fun w hw=>V.range_of_block (o:=0) (cs:=lkC (lkOf f)) (r:=[]) (hw.own _ (show InS (b104,.cells (lkC (lkOf f)).toArray 108 (0,0)) _ from in_).mem) rfl⟩) (by rfl) om_ om_) fun o2 ho2=>Lv Av<|Nl<|Ps<|Sq<|Dr ([[(b17,.cells (blC f.b).toArray 144 (0,0))]])<|Rv 0 rfl Mv<|Rv 1 rfl Nz<|Rv 2 rfl (Fa 8 74)<|Rv 3 rfl Mv<|Rv 4 rfl Nz<|Rv 5 rfl (Fa 8 74)<|Rv 7 rfl (Fa 2 48)<|Rv 8 rfl (Ld (v:= .int .u64 f.b.id))<|Re 6 rfl (CV fun w hw=>uLd_c x.a 8 (arC x (ovS th D.length e0 j.2.1 j.2.2.1 ⟨[],0,0⟩ none)) 77 j.2.1.id w rfl hw.pk.sat) fun _ _=>Rv 9 rfl (Val.maxI rfl rfl)<|Re 10 rfl (CM ([[(x.a,.cells (arC x (ovS th D.length e0 j.2.1 j.2.2.1 ⟨[],0,0⟩ none)).toArray 77 (0,0))]]) fun w hw hs0=>aStore_c x.a 8 (arC x (ovS th D.length e0 j.2.1 j.2.2.1 ⟨[],0,0⟩ none)) 77 _ (imax j.2.1.id f.b.id) w rfl hs0) fun _ _=>Rd<|Ps<|Dr ([[(b17,.cells (blC f.b).toArray 144 (0,0))]])<|Rv 0 rfl Mv<|Rv 1 rfl Nz<|Rv 2 rfl (Fa 9 74)<|Rv 3 rfl Mv<|Rv 4 rfl Nz<|Rv 5 rfl (Fa 9 74)<|Rv 7 rfl (Fa 3 48)<|Rv 8 rfl (Ld (v:= .int .u64 f.b.ver))<|Re 6 rfl (CV fun w hw=>uLd_c x.a 9 ((arC x (ovS th D.length e0 j.2.1 j.2.2.1 ⟨[],0,0⟩ none)).set 8 (.int .u64 (imax j.2.1.id f.b.id))) 77 j.2.1.ver w rfl hw.pk.sat) ?_
         intro _ _
         refine Rv 9 rfl (Val.maxI rfl rfl)<|Re 10 rfl (CM ([[(x.a,.cells ((arC x (ovS th D.length e0 j.2.1 j.2.2.1 ⟨[],0,0⟩ none)).set 8 (.int .u64 (imax j.2.1.id f.b.id))).toArray 77 (0,0))]]) fun w hw hs0=>aStore_c x.a 9 ((arC x (ovS th D.length e0 j.2.1 j.2.2.1 ⟨[],0,0⟩ none)).set 8 (.int .u64 (imax j.2.1.id f.b.id))) 77 _ (imax j.2.1.ver f.b.ver) w rfl hs0) fun _ _=>pA_ 7 ?_
         rw[← show(j.2.1.q++[lkOf f]).flatMap lkC=j.2.1.q.flatMap lkC++lkC (lkOf f) by rw[List.flatMap_append];rfl]
         refine PQ.round ((j.1+1,⟨(markF j.2.1.L f.line f.b.cls).1,j.2.1.Tz,j.2.1.D,j.2.1.q++[lkOf f],imax j.2.1.id f.b.id,imax j.2.1.ver f.b.ver⟩,j.2.2.1,o2)) ⟨by simp only;omega,hJ.q hf hbad h101 ho2⟩ (by simp only;omega) (by exact⟨rfl,congrArg (fun z=>some (ownV z o2)) (by simp),rfl,rfl,rfl,trivial⟩) pk_
        ·refine Sq<|Dr ([[(b18,.cells (lkC (lkOf f)).toArray 108 (0,0))],[(x.a,.cells (arC x (ovS th D.length e0 j.2.1 j.2.2.1 ⟨[],0,0⟩ none)).toArray 77 (0,0))]])<|pR_ [0,1,2] ?_
         refine Rv 3 rfl (Ld (v:= .pointer (some ⟨x.tb,0,none⟩)))<|Rv 4 rfl (Lw (l:=lkC (lkOf f)))<|Re 5 rfl (Cm_ (tset_c x.tb x.ms j.2.1.Tz ⟨hms,hJ.tb⟩ (lkOf f) hfo.1)) fun _ _=>Rd<|Ps ?_
         refine Cd_ rfl (fun h111=>?_) fun h111=>?_
         ·refine pA_ 14 ?_
          have e8:ovE D.length Fs=3:=hJ.had hf hfar hbad h101 h111
          intro w' hw;exact⟨none,⟨by rw[e8];rfl,fun x s h=>by cases h⟩,by rw[e8];rfl,hw.pick pk_⟩
         ·refine Dr ([[(b18,.cells (lkC (lkOf f)).toArray 108 (0,0))],[(x.a,.cells (arC x (ovS th D.length e0 j.2.1 j.2.2.1 ⟨[],0,0⟩ none)).toArray 77 (0,0))]])<|pR_ [0,1,2] ?_
          refine Rv 3 rfl (Ld (v:= .pointer (some ⟨x.ob,0,none⟩)))<|Rv 4 rfl (Lw (l:=lkC (lkOf f)))<|Re 5 rfl (Cm_ (oset_c x.ob j.2.2.1 (lkOf f) ⟨hJ.o4,fun p hp=>⟨hJ.ok p hp,by have:=hJ.le p hp;omega⟩⟩ hfo.1)) fun Lv2 hv2=>pA_ 3 ?_
          refine Dr ([[(b17,.cells (blC f.b).toArray 144 (0,0))]])<|pR_ [0,1,2,3,4,5,7] ?_
          refine Rv 8 rfl (Ld (v:= .int .u64 f.b.id))<|Re 6 rfl (CV fun w hw=>uLd_c x.a 8 (arC x (ovS th D.length e0 j.2.1 j.2.2.1 ⟨[],0,0⟩ none)) 77 j.2.1.id w rfl hw.pk.sat) fun _ _=>Rv 9 rfl (Val.maxI rfl rfl)<|Re 10 rfl (CM ([[(x.a,.cells (arC x (ovS th D.length e0 j.2.1 j.2.2.1 ⟨[],0,0⟩ none)).toArray 77 (0,0))]]) fun w hw hs0=>aStore_c x.a 8 (arC x (ovS th D.length e0 j.2.1 j.2.2.1 ⟨[],0,0⟩ none)) 77 _ (imax j.2.1.id f.b.id) w rfl hs0) fun _ _=>Rd<|Ps<|Dr ([[(b17,.cells (blC f.b).toArray 144 (0,0))]])<|pR_ [0,1,2,3,4,5,7] ?_
          refine Rv 8 rfl (Ld (v:= .int .u64 f.b.ver))<|Re 6 rfl (CV fun w hw=>uLd_c x.a 9 ((arC x (ovS th D.length e0 j.2.1 j.2.2.1 ⟨[],0,0⟩ none)).set 8 (.int .u64 (imax j.2.1.id f.b.id))) 77 j.2.1.ver w rfl hw.pk.sat) fun _ _=>Rv 9 rfl (Val.maxI rfl rfl)<|Re 10 rfl (CM ([[(x.a,.cells ((arC x (ovS th D.length e0 j.2.1 j.2.2.1 ⟨[],0,0⟩ none)).set 8 (.int .u64 (imax j.2.1.id f.b.id))).toArray 77 (0,0))]]) fun w hw hs0=>aStore_c x.a 9 ((arC x (ovS th D.length e0 j.2.1 j.2.2.1 ⟨[],0,0⟩ none)).set 8 (.int .u64 (imax j.2.1.id f.b.id))) 77 _ (imax j.2.1.ver f.b.ver) w rfl hs0) ?_
          intro _ _
          refine pA_ 7 ?_
          exact roundA ((j.1+1,⟨(markF j.2.1.L f.line f.b.cls).1,tSet j.2.1.Tz (lkOf f),oset j.2.1.D (lkOf f),j.2.1.q,imax j.2.1.id f.b.id,imax j.2.1.ver f.b.ver⟩,Lv2,j.2.2.2)) ⟨by simp only;omega,hJ.t hf hbad h101 h111 hv2⟩ (by simp only;omega)
     ·replace h70:=bF h70
      refine pR_ [13,14,15,16,17,18,19,20,21] ?_
      refine Rv 22 rfl (Ld (v:= .pointer (some ⟨x.pb,0,none⟩)))<|Rv 23 rfl (Fa 0 3)<|Rv 24 rfl (Ld (v:= .int .i64 f.line))<|Rv 25 rfl (Fa 0 3)<|Rv 26 rfl (Ld (v:= .int .i64 f.b.cls))<|Re 27 rfl (Cm_ (mark_c x.pb x.sb j.2.1.L f.line f.b.cls hJ.pl)) fun _ _=>pR_ [28,29] ?_
      refine Rd<|Ps ?_
      refine Cd_ rfl (fun h87=>?_) fun h87=>?_
      ·refine pA_ 14 ?_
       have hbad:ovBad j.2.1.L f=true:=by unfold ovBad;first|(simp[h61];done)|(simp[h61,h66];done)|(simp[h61,h66,h70,h76];done)|(simp[h61,h66,h70,h76,h87];done)|(simp[h61,h66,h70,h87];done)
       have e8:ovE D.length Fs=3:=hJ.bad hf hfar hbad
       intro w' hw;exact⟨none,⟨by rw[e8];rfl,fun x s h=>by cases h⟩,by rw[e8];rfl,hw.pick pk_⟩
      ·have hbad:ovBad j.2.1.L f=false:=by unfold ovBad;first|simp[h61,h66,h70,h76,h87]|simp[h61,h66,h70,h87]
       refine pA_ 5 ?_
       refine Lv (Ld (v:=str f.b.key))<|Lv (Fa 2 48)<|Lv (Ld (v:= .int .u64 f.b.id))<|Lv (Fa 3 48)<|Lv (Ld (v:= .int .u64 f.b.ver))<|Lv (Fa 0 3)<|Lv (Ld (v:= .int .i64 f.line))<|Lv (Fa 0 3)<|Lv (Ld (v:= .int .i64 f.b.cls))<|Lv (Bd (lkC (lkOf f)))<|Le AA fun b18 _=>LeN StW fun _ _=>pA_ 6 ?_
       refine Lv (Ld (v:= .int .i64 f.b.kind))<|pA_ 3 ?_
       refine Cd_ rfl (fun h101=>?_) fun h101=>?_
       ·refine Rg<|Lv Mv<|Lv (Lw (l:=lkC (lkOf f)))<|Le (Eff.buildSlice (rfl) [_,_,_,_,_] Tryz.underlying104 Tryz.sizeOf108 (by exact Tryz.zeroValue108) rfl rfl rfl rfl (by rfl)) fun b104 _=>Le (Eff.appendAny (lkC (lkOf f)) (sz:=5) (bytes:=48) (z:= .agg #[.string ⟨#[]⟩,.int .u64 0,.int .u64 0,.int .i64 0,.int .i64 0]) (xs:=j.2.1.q.flatMap lkC) (m0:=j.2.1.q.length) (o:=j.2.2.2) (m:=1) (pk:=[ownG 108 (j.2.1.q.flatMap lkC) (j.2.2.2)]) rfl rfl Tryz.underlying104 kr_ rfl om_ pk_ (by simp) hJ.own (by rfl) (fun hm0=>⟨b104,0,rfl,fun w hw=>V.range_of_block (o:=0) (cs:=lkC (lkOf f)) (r:=[]) (hw.own _ (show InS (b104,.cells (lkC (lkOf f)).toArray 108 (0,0)) _ from in_).mem) rfl⟩) (by rfl) om_ om_) fun o2 ho2=>Lv Av<|Nl<|Ps<|Sq<|Dr ([[(b17,.cells (blC f.b).toArray 144 (0,0))]])<|Rv 0 rfl Mv<|Rv 1 rfl Nz<|Rv 2 rfl (Fa 8 74)<|Rv 3 rfl Mv<|Rv 4 rfl Nz<|Rv 5 rfl (Fa 8 74)<|Rv 7 rfl (Fa 2 48)<|Rv 8 rfl (Ld (v:= .int .u64 f.b.id))<|Re 6 rfl (CV fun w hw=>uLd_c x.a 8 (arC x (ovS th D.length e0 j.2.1 j.2.2.1 ⟨[],0,0⟩ none)) 77 j.2.1.id w rfl hw.pk.sat) fun _ _=>Rv 9 rfl (Val.maxI rfl rfl)<|Re 10 rfl (CM ([[(x.a,.cells (arC x (ovS th D.length e0 j.2.1 j.2.2.1 ⟨[],0,0⟩ none)).toArray 77 (0,0))]]) fun w hw hs0=>aStore_c x.a 8 (arC x (ovS th D.length e0 j.2.1 j.2.2.1 ⟨[],0,0⟩ none)) 77 _ (imax j.2.1.id f.b.id) w rfl hs0) fun _ _=>Rd<|Ps<|Dr ([[(b17,.cells (blC f.b).toArray 144 (0,0))]])<|Rv 0 rfl Mv<|Rv 1 rfl Nz<|Rv 2 rfl (Fa 9 74)<|Rv 3 rfl Mv<|Rv 4 rfl Nz<|Rv 5 rfl (Fa 9 74)<|Rv 7 rfl (Fa 3 48)<|Rv 8 rfl (Ld (v:= .int .u64 f.b.ver))<|Re 6 rfl (CV fun w hw=>uLd_c x.a 9 ((arC x (ovS th D.length e0 j.2.1 j.2.2.1 ⟨[],0,0⟩ none)).set 8 (.int .u64 (imax j.2.1.id f.b.id))) 77 j.2.1.ver w rfl hw.pk.sat) ?_
        intro _ _
        refine Rv 9 rfl (Val.maxI rfl rfl)<|Re 10 rfl (CM ([[(x.a,.cells ((arC x (ovS th D.length e0 j.2.1 j.2.2.1 ⟨[],0,0⟩ none)).set 8 (.int .u64 (imax j.2.1.id f.b.id))).toArray 77 (0,0))]]) fun w hw hs0=>aStore_c x.a 9 ((arC x (ovS th D.length e0 j.2.1 j.2.2.1 ⟨[],0,0⟩ none)).set 8 (.int .u64 (imax j.2.1.id f.b.id))) 77 _ (imax j.2.1.ver f.b.ver) w rfl hs0) fun _ _=>pA_ 7 ?_
        rw[← show(j.2.1.q++[lkOf f]).flatMap lkC=j.2.1.q.flatMap lkC++lkC (lkOf f) by rw[List.flatMap_append];rfl]
        refine PQ.round ((j.1+1,⟨(markF j.2.1.L f.line f.b.cls).1,j.2.1.Tz,j.2.1.D,j.2.1.q++[lkOf f],imax j.2.1.id f.b.id,imax j.2.1.ver f.b.ver⟩,j.2.2.1,o2)) ⟨by simp only;omega,hJ.q hf hbad h101 ho2⟩ (by simp only;omega) (by exact⟨rfl,congrArg (fun z=>some (ownV z o2)) (by simp),rfl,rfl,rfl,trivial⟩) pk_
       ·refine Sq<|Dr ([[(b18,.cells (lkC (lkOf f)).toArray 108 (0,0))],[(x.a,.cells (arC x (ovS th D.length e0 j.2.1 j.2.2.1 ⟨[],0,0⟩ none)).toArray 77 (0,0))]])<|pR_ [0,1,2] ?_
        refine Rv 3 rfl (Ld (v:= .pointer (some ⟨x.tb,0,none⟩)))<|Rv 4 rfl (Lw (l:=lkC (lkOf f)))<|Re 5 rfl (Cm_ (tset_c x.tb x.ms j.2.1.Tz ⟨hms,hJ.tb⟩ (lkOf f) hfo.1)) fun _ _=>Rd<|Ps ?_
        refine Cd_ rfl (fun h111=>?_) fun h111=>?_
        ·refine pA_ 14 ?_
         have e8:ovE D.length Fs=3:=hJ.had hf hfar hbad h101 h111
         intro w' hw;exact⟨none,⟨by rw[e8];rfl,fun x s h=>by cases h⟩,by rw[e8];rfl,hw.pick pk_⟩
        ·refine Dr ([[(b18,.cells (lkC (lkOf f)).toArray 108 (0,0))],[(x.a,.cells (arC x (ovS th D.length e0 j.2.1 j.2.2.1 ⟨[],0,0⟩ none)).toArray 77 (0,0))]])<|pR_ [0,1,2] ?_
         refine Rv 3 rfl (Ld (v:= .pointer (some ⟨x.ob,0,none⟩)))<|Rv 4 rfl (Lw (l:=lkC (lkOf f)))<|Re 5 rfl (Cm_ (oset_c x.ob j.2.2.1 (lkOf f) ⟨hJ.o4,fun p hp=>⟨hJ.ok p hp,by have:=hJ.le p hp;omega⟩⟩ hfo.1)) fun Lv2 hv2=>pA_ 3 ?_
         refine Dr ([[(b17,.cells (blC f.b).toArray 144 (0,0))]])<|pR_ [0,1,2,3,4,5,7] ?_
         refine Rv 8 rfl (Ld (v:= .int .u64 f.b.id))<|Re 6 rfl (CV fun w hw=>uLd_c x.a 8 (arC x (ovS th D.length e0 j.2.1 j.2.2.1 ⟨[],0,0⟩ none)) 77 j.2.1.id w rfl hw.pk.sat) fun _ _=>Rv 9 rfl (Val.maxI rfl rfl)<|Re 10 rfl (CM ([[(x.a,.cells (arC x (ovS th D.length e0 j.2.1 j.2.2.1 ⟨[],0,0⟩ none)).toArray 77 (0,0))]]) fun w hw hs0=>aStore_c x.a 8 (arC x (ovS th D.length e0 j.2.1 j.2.2.1 ⟨[],0,0⟩ none)) 77 _ (imax j.2.1.id f.b.id) w rfl hs0) fun _ _=>Rd<|Ps<|Dr ([[(b17,.cells (blC f.b).toArray 144 (0,0))]])<|pR_ [0,1,2,3,4,5,7] ?_
         refine Rv 8 rfl (Ld (v:= .int .u64 f.b.ver))<|Re 6 rfl (CV fun w hw=>uLd_c x.a 9 ((arC x (ovS th D.length e0 j.2.1 j.2.2.1 ⟨[],0,0⟩ none)).set 8 (.int .u64 (imax j.2.1.id f.b.id))) 77 j.2.1.ver w rfl hw.pk.sat) fun _ _=>Rv 9 rfl (Val.maxI rfl rfl)<|Re 10 rfl (CM ([[(x.a,.cells ((arC x (ovS th D.length e0 j.2.1 j.2.2.1 ⟨[],0,0⟩ none)).set 8 (.int .u64 (imax j.2.1.id f.b.id))).toArray 77 (0,0))]]) fun w hw hs0=>aStore_c x.a 9 ((arC x (ovS th D.length e0 j.2.1 j.2.2.1 ⟨[],0,0⟩ none)).set 8 (.int .u64 (imax j.2.1.id f.b.id))) 77 _ (imax j.2.1.ver f.b.ver) w rfl hs0) ?_
         intro _ _
         refine pA_ 7 ?_
         exact roundA ((j.1+1,⟨(markF j.2.1.L f.line f.b.cls).1,tSet j.2.1.Tz (lkOf f),oset j.2.1.D (lkOf f),j.2.1.q,imax j.2.1.id f.b.id,imax j.2.1.ver f.b.ver⟩,Lv2,j.2.2.2)) ⟨by simp only;omega,hJ.t hf hbad h101 h111 hv2⟩ (by simp only;omega)
  ·obtain⟨j1,c,Lz,o⟩:=j
   have hj9:j1=Fs.length:=by simp only at hj1 h53;omega
   subst hj9
   replace hJ:OvJ D.length Fs Fs.length c Lz o:=hJ
   have hql:c.q.length≤Fs.length:=hJ.ql
   obtain⟨ps,cs,hvs,_,_⟩:=own_slg (e:=108) lkC_len c.q o hJ.own
   refine pA_ 8 ?_
   refine Le (CM ([ownG 108 (c.q.flatMap lkC) o]) fun w hw hs0=>Stb.sortStable_c o c.q hJ.own (by have:=hJ.ql;omega) w hs0) fun q2 hq2=>pA_ 6 ?_
   refine LW.re 143 (.slice ps c.q.length cs) rfl hvs<|pA_ 5 ?_
   refine loopA (γ:=Nat×Rng×V.OwnO) (fun m=>[(10,.pointer (some ⟨x.a,0,none⟩)),(143,.slice ps c.q.length cs),(144,.int .i64 (c.q.length:Nat)),(145,.int .i64 (m.1:Nat))]) (fun m=>ownG 108 (q2.flatMap lkC) o::(arS x (ovS th D.length e0 c Lz m.2.1 m.2.2) xd.db++dvS xd D k)) (fun m=>m.1≤c.q.length∧rgQ m.2.1=q2.take m.1∧rgO m.2.1 m.2.2∧m.2.1.R.length≤m.1) (fun m=>c.q.length-m.1) ((0,⟨[],0,0⟩,none)) ⟨Nat.zero_le _,rfl,rg0_ok,by simp⟩ fun m=>?_
   rintro⟨hm1,hm2,hm3,hm4⟩
   have hq2l:=hq2.1.1
   refine pA_ 6 ?_
   refine Cd_ rfl (fun h146=>?_) fun h146=>?_
   ·obtain⟨g,rest,cap,rfl⟩:∃g r c,o=some (g,r,c):=by
     rcases o with _|⟨g,r,c⟩
     ·exact absurd hJ.own.2 (by have:=hq2.1.1;omega)
     ·exact⟨g,r,c,rfl⟩
    have h8:=hvs
    simp only[ownV] at h8
    injection h8 with h9 h10 h11
    subst h9 h11
    obtain⟨y,hy⟩:∃y,q2[m.1]? =some y:=⟨q2[m.1]'om_,by simp⟩
    obtain⟨r2,hr2⟩:=flk_at (rest:=rest) hy
    refine pA_ 6 ?_
    refine Lv (Val.indexAddrN (i:=m.1) rfl rfl Tryz.underlying104 Tryz.sizeOf108 om_)<|Lv (La (lkC y) (hl:=hr2))<|Le AA fun b20 _=>LeN StW fun _ _=>Nl<|Ps<|Dr ([[(b20,.cells (lkC y).toArray 108 (0,0))],[(x.a,.cells (arC x (ovS th D.length e0 c Lz m.2.1 m.2.2)).toArray 77 (0,0))]])<|pR_ [0,1,2] ?_
    refine Rv 3 rfl (Ld (v:= .pointer (some ⟨x.fb,0,none⟩)))<|Rv 4 rfl (Lw (l:=lkC y))<|Re 5 rfl (Cm_ (lpush_c x.fb m.2.1 m.2.2 y hm3 (by have:=hJ.ql;have:=hq2.1.1;omega))) fun ro2 hro2=>pA_ 4 ?_
    refine Lv (Val.ar (r:=(m.1:Nat)+1) rfl rfl rfl (IntWalk.i64_in _ om_))<|Lv Mv<|Nl ?_
    exact roundA ((m.1+1,m.2.1.push y,ro2)) ⟨by simp only;omega,by simp only;rw[Rng.push_Q hm3.1,hm2,List.take_add_one,hy];rfl,hro2,by simp only;have:=push_le m.2.1 y;omega⟩ (by simp only;omega)
   ·refine pA_ 14 ?_
    have hm9:m.1=q2.length:=by omega
    rw[hm9,List.take_length] at hm2
    obtain⟨e7,e8⟩:=hJ.end_ hfar
    intro w' hw
    refine⟨some (x,ovS th D.length e0 c Lz m.2.1 m.2.2),⟨by rw[e8];rfl,fun x' s' h=>?_⟩,by rw[e8];rfl,hw.pick pk_⟩
    cases h
    exact⟨c,e7,Lz,m.2.1,m.2.2,rfl,hJ.od,by rw[hm2];exact hq2.1,by rw[hm2];exact hq2.2,⟨hJ.pl,hJ.sl,by simp[ovS,ar0],⟨by simp[ovS,ar0],by simp[ovS,ar0],by simp[ovS,ar0]⟩,⟨rfl,rfl⟩,⟨hms,hJ.tb⟩,⟨hJ.o4,hJ.ok⟩,hm3,⟨rfl,rfl⟩⟩⟩
end
section
attribute [local irreducible] V.CW V.LW V.QW V.RW V.PQ V.Val V.Eff V.Qcall
open V (str byC ownV ownG ownS ownOk)
instance:Und Tryz.prog 25 (dOf Tryz.underlying25):=⟨Tryz.underlying25⟩
instance:Siz Tryz.prog 25 (kOf Tryz.sizeOf25):=⟨Tryz.sizeOf25⟩
instance:AgF Tryz.prog 25:=⟨Tryz.isAgg25⟩
instance:Und Tryz.prog 130 (dOf Tryz.underlying130):=⟨Tryz.underlying130⟩
instance:Zer Tryz.prog 130 (zOf Tryz.zeroValue130):=⟨Tryz.zeroValue130⟩
instance:Cal Tryz.prog 146:=⟨Tryz.call146⟩
instance:Cal Tryz.prog 157:=⟨Tryz.call157⟩
structure Rvl where
 th:Int
 ph:Int
 e:Int
 nx:Int
 fd:List Fnd
 fo:V.OwnO
 kp:List Fnd
 ko:V.OwnO
 dn:Int
 m1:Int
 m2:Int
 st:Value
 why:Int
def rvC (db:Nat)(r:Rvl):List Value:=[.pointer (some ⟨db,0,none⟩),.int .i64 r.th,.int .i64 r.ph,.int .u64 r.e,.int .i64 r.nx,ownV r.fd.length r.fo,ownV r.kp.length r.ko,.int .u32 r.dn,.int .i32 r.m1,.int .u32 r.m2,r.st,.int .i64 r.why]
abbrev rvO (rb db:Nat)(r:Rvl):Nat×Obj:=(rb,.cells (rvC db r).toArray 130 (0,0))
abbrev rvS (rb db:Nat)(r:Rvl):Sg:=[[rvO rb db r],ownG 146 (r.fd.flatMap fdC) r.fo,ownG 146 (r.kp.flatMap fdC) r.ko]
structure RvOk (r:Rvl):Prop where
 fd:ownOk 9 r.fd.length (r.fd.flatMap fdC) r.fo
 kp:ownOk 9 r.kp.length (r.kp.flatMap fdC) r.ko
 fl:r.fd.length≤800
 tx:∀f∈r.fd,fdOk f
 nx:0≤r.nx
def soundF (e:Int)(f:Fnd):Bool:=f.good&&decide (f.b.ep≤e)
def payF (e:Int)(f:Fnd):Bool:=soundF e f&&decide (f.b.kind≠3)
def antiF (e:Int)(f:Fnd):Bool:=soundF e f&&decide (f.b.kind=3)
def newF (e:Int)(g f:Fnd):Bool:=soundF e g&&decide (g.b.id=f.b.id)&&(decide (f.b.ver<g.b.ver)||(payF e g&&decide (g.b.ver=f.b.ver)&&decide (g.line<f.line)))
def keepF (e:Int)(fd:List Fnd)(f:Fnd):Bool:=payF e f&& !(fd.any fun g=>newF e g f)
theorem to_g (rb db:Nat)(r:Rvl)(p:Int):Mo Tryz.prog 102 [.pointer (some ⟨rb,0,none⟩),.int .i64 p] [[rvO rb db r]] (fun _u:Unit=>True) (fun _=> .int .i64 0) (fun _=>[[rvO rb db {r with ph:=p,nx:=0}]]):=by
 intro w hs
 refine Ca_ Tryz.func102 rfl Tryz.ntmps102 hs<|pA_ 12 ?_
 refine LeN StS fun _ _=>Lv Nz<|Lv (Fa 4 3)<|LeN StS fun _ _=>pA_ 9 ?_
 intro w' hw;exact⟨(),trivial,rfl,hw⟩
theorem sound_g (rb db:Nat)(r:Rvl)(f:Fnd)(w:World)(hB:w.heap[rb]? =some (.cells (rvC db r).toArray 130 (0,0))):Calls Tryz.prog 157 [.pointer (some ⟨rb,0,none⟩),.agg (fdC f).toArray].toArray w fun e w'=>e= .returned (.bool (soundF r.e f))∧Below w.heap.size w w':=by
 refine Cb_ Tryz.func157 rfl Tryz.ntmps157<|Sq<|Rg<|Le XA fun b3 _=>pA_ 4 ?_
 refine Qt<|Qv (Fa 1 4)<|Qv (Ld (v:= .bool f.good))<|Qv Mv ?_
 refine QW.split (d:=7) rfl (fun h7=>?_) (fun h7=>?_)
 ·replace h7:=bT h7
  refine Qv (Fa 2 144)<|Qv (Fa 4 48)<|Qv (Ld (v:= .int .u64 f.b.ep))<|pA_ 3 ?_
  refine Qv (Val.loadO rfl Tryz.isAgg48 (V.lt_of_some hB) (by simp[ids]) (V.cell_of_block hB rfl))<|pA_ 7 ?_
  intro w' hw;exact⟨by unfold soundF;simp_all,hw.below⟩
 ·replace h7:=bF h7
  refine pA_ 14 ?_
  intro w' hw;exact⟨by unfold soundF;simp_all,hw.below⟩
theorem pay_g (rb db:Nat)(r:Rvl)(f:Fnd)(w:World)(hB:w.heap[rb]? =some (.cells (rvC db r).toArray 130 (0,0))):Calls Tryz.prog 146 [.pointer (some ⟨rb,0,none⟩),.agg (fdC f).toArray].toArray w fun e w'=>e= .returned (.bool (payF r.e f))∧Below w.heap.size w w':=by
 refine Cb_ Tryz.func146 rfl Tryz.ntmps146<|Sq<|Rg<|Le XA fun b3 _=>pA_ 6 ?_
 refine Lv (Lw (l:=fdC f))<|Le (CV fun w hw=>sound_g rb db r f w ((hw.old rb (V.lt_of_some hB) (by simp[ids])).trans hB)) fun _ _=>Lv Mv ?_
 refine LW.split (d:=8) rfl (fun h8=>?_) (fun h8=>?_)
 ·replace h8:=bT h8
  refine Lv (Fa 2 144)<|Lv (Fa 1 3)<|Lv (Ld (v:= .int .i64 f.b.kind))<|pA_ 7 ?_
  intro w' hw;exact⟨by unfold payF;by_cases hk3:f.b.kind=3<;>simp_all,hw.below⟩
 ·replace h8:=bF h8
  refine pA_ 10 ?_
  intro w' hw;exact⟨by unfold payF;by_cases hk3:f.b.kind=3<;>simp_all,hw.below⟩
theorem anti_g (rb db:Nat)(r:Rvl)(f:Fnd)(w:World)(hB:w.heap[rb]? =some (.cells (rvC db r).toArray 130 (0,0))):Calls Tryz.prog 108 [.pointer (some ⟨rb,0,none⟩),.agg (fdC f).toArray].toArray w fun e w'=>e= .returned (.bool (antiF r.e f))∧Below w.heap.size w w':=by
 refine Cb_ Tryz.func108 rfl Tryz.ntmps108<|Sq<|Rg<|Le XA fun b3 _=>pA_ 6 ?_
 refine Lv (Lw (l:=fdC f))<|Le (CV fun w hw=>sound_g rb db r f w ((hw.old rb (V.lt_of_some hB) (by simp[ids])).trans hB)) fun _ _=>Lv Mv ?_
 refine LW.split (d:=8) rfl (fun h8=>?_) (fun h8=>?_)
 ·replace h8:=bT h8
  refine Lv (Fa 2 144)<|Lv (Fa 1 3)<|Lv (Ld (v:= .int .i64 f.b.kind))<|pA_ 7 ?_
  intro w' hw;exact⟨by unfold antiF;by_cases hk3:f.b.kind=3<;>simp_all,hw.below⟩
 ·replace h8:=bF h8
  refine pA_ 10 ?_
  intro w' hw;exact⟨by unfold antiF;by_cases hk3:f.b.kind=3<;>simp_all,hw.below⟩
theorem newer_g (rb db:Nat)(r:Rvl)(g f:Fnd)(w:World)(hB:w.heap[rb]? =some (.cells (rvC db r).toArray 130 (0,0))):Calls Tryz.prog 149 [.pointer (some ⟨rb,0,none⟩),.agg (fdC g).toArray,.agg (fdC f).toArray].toArray w fun e w'=>e= .returned (.bool (newF r.e g f))∧Below w.heap.size w w':=by
 refine Cb_ Tryz.func149 rfl Tryz.ntmps149<|Sq<|Rg<|Le XA fun b4 _=>Le XA fun b5 _=>pA_ 7 ?_
 refine Lv (Lw (l:=fdC g))<|Le (CV fun w hw=>sound_g rb db r g w ((hw.old rb (V.lt_of_some hB) (by simp[ids])).trans hB)) fun _ _=>Lv Nt<|Lv Mv ?_
 refine LW.split (d:=11) rfl (fun h11=>?_) (fun h11=>?_)
 ·replace h11:=bT h11
  refine pA_ 19 ?_
  intro w' hw;exact⟨by unfold newF;simp_all,hw.below⟩
 ·replace h11:=bF h11
  refine Lv (Fa 2 144)<|Lv (Fa 2 48)<|Lv (Ld (v:= .int .u64 g.b.id))<|Lv (Fa 2 144)<|Lv (Fa 2 48)<|Lv (Ld (v:= .int .u64 f.b.id))<|pA_ 4 ?_
  refine Cd_ rfl (fun h19=>?_) fun h19=>?_
  ·refine pA_ 8 ?_
   intro w' hw;exact⟨by unfold newF;simp_all,hw.below⟩
  ·refine pA_ 6 ?_
   refine Lv (Ld (v:= .int .u64 g.b.ver))<|Lv (Fa 2 144)<|Lv (Fa 3 48)<|Lv (Ld (v:= .int .u64 f.b.ver))<|Lv Cm<|Lv Mv ?_
   refine LW.split (d:=27) rfl (fun h27=>?_) (fun h27=>?_)
   ·replace h27:=bT h27
    refine pA_ 25 ?_
    intro w' hw;exact⟨by unfold newF;simp_all,hw.below⟩
   ·replace h27:=bF h27
    refine Lv Mv<|Lv (Lw (l:=fdC g))<|Le (CV fun w hw=>pay_g rb db r g w ((hw.old rb (V.lt_of_some hB) (by simp[ids])).trans hB)) fun _ _=>Lv Mv ?_
    refine LW.split (d:=31) rfl (fun h31=>?_) (fun h31=>?_)
    ·replace h31:=bT h31
     refine Lv (Fa 2 144)<|Lv (Fa 3 48)<|Lv (Ld (v:= .int .u64 g.b.ver))<|Lv (Fa 2 144)<|Lv (Fa 3 48)<|Lv (Ld (v:= .int .u64 f.b.ver))<|pA_ 3 ?_
     refine LW.split (d:=40) rfl (fun h40=>?_) (fun h40=>?_)
     ·replace h40:=bT h40
      refine Lv (Fa 0 3)<|Lv (Ld (v:= .int .i64 g.line))<|Lv (Fa 0 3)<|Lv (Ld (v:= .int .i64 f.line))<|pA_ 8 ?_
      intro w' hw;exact⟨by unfold newF;simp_all,hw.below⟩
     ·replace h40:=bF h40
      refine pA_ 12 ?_
      intro w' hw;exact⟨by unfold newF;simp_all,hw.below⟩
    ·replace h31:=bF h31
     refine pA_ 21 ?_
     intro w' hw;exact⟨by unfold newF;simp_all,hw.below⟩
end
section
attribute [local irreducible] V.CW V.LW V.QW V.RW V.PQ V.Val V.Eff V.Qcall
open V (str byC ownV ownG ownS ownOk)
instance:Und Tryz.prog 45 (dOf Tryz.underlying45):=⟨Tryz.underlying45⟩
instance:AgF Tryz.prog 45:=⟨Tryz.isAgg45⟩
instance:Cal Tryz.prog 147:=⟨Tryz.call147⟩
instance:Cal Tryz.prog 149:=⟨Tryz.call149⟩
instance:Cal Tryz.prog 188:=⟨Tryz.call188⟩
theorem own_slF (l:List Fnd)(y:V.OwnO)(hy:ownOk 9 l.length (l.flatMap fdC) y):∃(p:Option Addr) (c:Nat),ownV l.length y= .slice p l.length c∧∀{B:V.Base} {sg r:V.Sg} {w:World},Hp B sg w→Pick [ownG 146 (l.flatMap fdC) y] sg r→V.slAt w p 9 fdC l:=by
 obtain⟨p,c,h1,_,h2⟩:=own_slg (e:=146) fdC_len l y hy
 exact⟨p,c,h1,h2⟩
theorem keep1_g (pb qb rb db:Nat)(r:Rvl)(f g:Fnd):Rx Tryz.prog 148 [.agg (fdC g).toArray,.pointer (some ⟨pb,0,none⟩),.pointer (some ⟨qb,0,none⟩)] [[(pb,.cells [.pointer (some ⟨rb,0,none⟩)].toArray 45 (0,0))],[(qb,.cells (fdC f).toArray 146 (0,0))],[rvO rb db r]] (.bool (newF r.e g f)):=by
 intro w hs
 refine Ca_ Tryz.func148 rfl Tryz.ntmps148 hs<|Sq<|Rg<|Le XA fun b3 _=>pA_ 5 ?_
 refine Lv (Ld (v:= .pointer (some ⟨rb,0,none⟩)))<|Lv (Lw (l:=fdC g))<|Lv (Lw (l:=fdC f))<|Le (CV fun w hw=>newer_g rb db r g f w hw.at) fun _ _=>pA_ 5 ?_
 exact fr_ hs
theorem any_no {α:Type}{q:α→Bool}{l:List α}{k:Nat}{y:α}(h:∀z∈l.take k,q z=false)(hy:l[k]? =some y)(hn:q y=false):∀z∈l.take (k+1),q z=false:=fun z hz=>by
 rw[List.take_add_one,hy] at hz
 rcases List.mem_append.1 hz with h9|h9
 ·exact h z h9
 ·obtain rfl:z=y:=by simpa using h9
  exact hn
def anyI (q:Fnd→Bool)(l:List Fnd)(i:Int):Prop:=(0≤i)=(l.any q=true)
theorem anyI_yes {q:Fnd→Bool}{l:List Fnd}{k:Nat}{y:Fnd}(hy:l[k]? =some y)(h:q y=true):anyI q l (k:Nat):=by
 unfold anyI
 simp only[eq_iff_iff]
 exact⟨fun _=>List.any_eq_true.2 ⟨y,List.mem_of_getElem? hy,h⟩,fun _=>by omega⟩
theorem anyI_no {q:Fnd→Bool}{l:List Fnd}(h:∀y∈l,q y=false):anyI q l (-1):=by
 unfold anyI
 have e:l.any q=false:=by
  rw[List.any_eq_false]
  intro y hy
  rw[h y hy];decide
 rw[e]
 simp only[eq_iff_iff]
 exact⟨fun h=>by omega,fun h=>by cases h⟩
theorem anyIx_g (pb qb rb db:Nat)(r:Rvl)(f:Fnd)(l:List Fnd)(p:Option Addr)(c:Nat)(hl:l.length≤1000)(w:World)(hp:V.slAt w p 9 fdC l)(hs:Sat [[(pb,.cells [.pointer (some ⟨rb,0,none⟩)].toArray 45 (0,0))],[(qb,.cells (fdC f).toArray 146 (0,0))],[rvO rb db r]] w):Calls Tryz.prog 188 [.slice p l.length c,.func (.func 148) #[] #[.pointer (some ⟨pb,0,none⟩),.pointer (some ⟨qb,0,none⟩)]].toArray w fun e w'=>∃i:Int,anyI (fun g=>newF r.e g f) l i∧e= .returned (.int .i64 i)∧Below w.heap.size w w':=by
 refine Cb_ Tryz.func188 rfl Tryz.ntmps188<|pA_ 14 ?_
 refine loopA (γ:=Nat) (fun k=>[(0,.slice p l.length c),(1,.func (.func 148) #[] #[.pointer (some ⟨pb,0,none⟩),.pointer (some ⟨qb,0,none⟩)]),(7,.int .i64 (l.length:Nat)),(8,.int .i64 (k:Nat))]) (fun _=>[]) (fun k=>k≤l.length∧∀z∈l.take k,newF r.e z f=false) (fun k=>l.length-k) (0) ⟨Nat.zero_le _,by simp⟩ fun k=>?_
 rintro⟨hk1,hk2⟩
 refine pA_ 6 ?_
 refine Cd_ rfl (fun h9=>?_) fun h9=>?_
 ·have hk9:k<l.length:=by omega
  obtain⟨bb1,o1,y,rfl,hb1,hx1,hr1⟩:=V.slAt_at hp rfl (k:=k) hk9
  refine pA_ 16 ?_
  refine Lv (Val.loadOA (cs:=fdC y) rfl Tryz.isAgg146 hb1 (by simp[ids]) (hr1 k y hx1) (by exact Tryz.sizeOf146))<|Le (Eff.callFV (f:=148) (caps:=[.pointer (some ⟨pb,0,none⟩),.pointer (some ⟨qb,0,none⟩)]) rfl rfl Tryz.call148 (fun w hw=>keep1_g pb qb rb db r f y w (sat_old hs hw))) fun _ _=>Nl<|Ps ?_
  refine Cd_ rfl (fun h16=>?_) fun h16=>?_
  ·have h16:newF r.e y f=true:=h16
   refine pA_ 13 ?_
   intro w' hw;exact⟨(k:Nat),anyI_yes (q:=fun g=>newF r.e g f) hx1 h16,rfl,hw.below⟩
  ·have h16:newF r.e y f=false:=h16
   refine pA_ 7 ?_
   exact roundA (k+1) ⟨by omega,any_no (q:=fun g=>newF r.e g f) hk2 hx1 h16⟩ om_
 ·have hk9:l.length≤k:=by omega
  refine pA_ 12 ?_
  intro w' hw;exact⟨-1,anyI_no (q:=fun g=>newF r.e g f) (fun z hz=>hk2 z (by rw[List.take_of_length_le hk9];exact hz)),rfl,hw.below⟩
theorem any_g (pb qb rb db:Nat)(r:Rvl)(f:Fnd)(l:List Fnd)(p:Option Addr)(c:Nat)(hl:l.length≤1000)(w:World)(hp:V.slAt w p 9 fdC l)(hs:Sat [[(pb,.cells [.pointer (some ⟨rb,0,none⟩)].toArray 45 (0,0))],[(qb,.cells (fdC f).toArray 146 (0,0))],[rvO rb db r]] w):Calls Tryz.prog 147 [.slice p l.length c,.func (.func 148) #[] #[.pointer (some ⟨pb,0,none⟩),.pointer (some ⟨qb,0,none⟩)]].toArray w fun e w'=>e= .returned (.bool (l.any fun g=>newF r.e g f))∧Below w.heap.size w w':=by
 refine Cb_ Tryz.func147 rfl Tryz.ntmps147<|pA_ 9 ?_
 refine Le (CR fun w hw=>anyIx_g pb qb rb db r f l p c hl w (hw.slAt hp (by simp[ids])) (sat_old hs hw)) fun i hi=>pA_ 6 ?_
 intro w' hw;exact⟨by congr 2;rw[Bool.eq_iff_iff,decide_eq_true_eq];exact iff_of_eq hi,hw.below⟩
theorem keeps_g (rb db:Nat)(r:Rvl)(hr:RvOk r)(f:Fnd):Rx Tryz.prog 104 [.pointer (some ⟨rb,0,none⟩),.agg (fdC f).toArray] (rvS rb db r) (.bool (keepF r.e r.fd f)):=by
 intro w hs
 obtain⟨ps,cs,hvs,hss⟩:=own_slF r.fd r.fo hr.fd
 refine Ca_ Tryz.func104 rfl Tryz.ntmps104 hs<|Sq<|Rg<|Le XS fun b2 _=>Le XA fun b3 _=>pA_ 5 ?_
 refine Lv (Ld (v:= .pointer (some ⟨rb,0,none⟩)))<|Lv (Lw (l:=fdC f))<|Le (CV fun w hw=>pay_g rb db r f w hw.at) fun _ _=>Lv Mv ?_
 refine LW.split (d:=8) rfl (fun h8=>?_) (fun h8=>?_)
 ·replace h8:=bT h8
  refine Lv (Ld (v:= .pointer (some ⟨rb,0,none⟩)))<|Lv Nz<|Lv (Fa 5 60)<|Lv (Ld (v:=ownV r.fd.length r.fo))<|LW.re 12 (.slice ps r.fd.length cs) rfl hvs<|Lv Mf<|Le (CV fun w hw=>any_g b2 b3 rb db r f r.fd ps cs (by have:=hr.fl;omega) w (hss hw pk_) (hw.sat.pick (ss:=[[(b2,.cells [.pointer (some ⟨rb,0,none⟩)].toArray 45 (0,0))],[(b3,.cells (fdC f).toArray 146 (0,0))],[rvO rb db r]]) pk_)) fun _ _=>pA_ 7 ?_
  intro w' hw;exact⟨by unfold keepF;simp_all,hw.ro pk_ hs⟩
 ·replace h8:=bF h8
  refine pA_ 13 ?_
  intro w' hw;exact⟨by unfold keepF;simp_all,hw.ro pk_ hs⟩
end
section
attribute [local irreducible] V.CW V.LW V.QW V.RW V.PQ V.Val V.Eff V.Qcall
open V (str byC ownV ownG ownS ownOk)
theorem places146:∀w,((Array.mapM (fun(f:Field)=>do pure (f.offset,← sizeOf f.type)) (Tryz.prog.fieldsOf 146):Sem (Array (Nat×Nat)))).run Tryz.prog w= .ok [(0,1),(1,1),(2,7)].toArray w:=by
 intro w;kernel_rfl
instance:Plc Tryz.prog 146 (fOf Tryz.underlying146) (lOf (P:=Tryz.prog) places146):=⟨places146,Tryz.underlying146⟩
instance:Cal Tryz.prog 70:=⟨Tryz.call70⟩
theorem own_src {l:List UInt8}{y:V.OwnO}(hy:ownOk 1 l.length (byC l) y):∃(p:Option Addr) (c:Nat),ownV l.length y= .slice p l.length c∧l.length≤c∧(0<l.length→∃b,p=some ⟨b,0,none⟩∧∀{B:V.Base} {sg r:V.Sg} {w:World},Hp B sg w→Pick [ownG 5 (byC l) y] sg r→w.rangeAt b 0 (byC l))∧∀{B:V.Base} {sg r:V.Sg} {w:World},Hp B sg w→Pick [ownG 5 (byC l) y] sg r→V.slAt w p 1 byE l:=by
 have hy2:ownOk 1 l.length (l.flatMap byE) y:=by rw[← byC_flat];exact hy
 obtain⟨p,c,h1,h3,h2⟩:=own_slg (e:=5) byE_len l y hy2
 refine⟨p,c,h1,h3 om_,fun h0=>?_,fun hw hp=>h2 hw (by rw[← byC_flat];exact hp)⟩
 rcases y with _|⟨g,r,cap⟩
 ·have:=hy.2;omega
 ·refine⟨g,?_,fun hw hp=>?_⟩
  ·have h8:ownV l.length (some (g,r,cap))= .slice (some ⟨g,0,none⟩) l.length cap:=rfl
   rw[h8] at h1
   injection h1 with h9
   exact h9.symm
  ·exact V.range_of_block (o:=0) (r:=r) ((hw.pick hp).own _ (show InS (g,.cells (byC l++r).toArray 5 (0,0)) [[(g,.cells (byC l++r).toArray 5 (0,0))]] from .here).mem) (by simp)
def linesL (D:List Ce)(line:Int)(n:Nat):List UInt8:=(List.range n).flatMap fun i:Nat=>nowL D (line+(i:Nat))
theorem nowL_le (D:List Ce)(line:Int):(nowL D line).length≤64:=by
 unfold nowL
 split
 ·cases h:D[line.toNat]? with
  |none=>simp
  |some c=>simp[c.now.2]
 ·simp
theorem linesL_succ (D:List Ce)(line:Int)(n:Nat):linesL D line (n+1)=linesL D line n++nowL D (line+(n:Nat)):=by
 unfold linesL;rw[List.range_succ,List.flatMap_append,List.flatMap_singleton]
theorem linesL_le (D:List Ce)(line:Int):∀n,(linesL D line n).length≤64*n
 |0=>by simp[linesL]
 |n+1=>by
  rw[linesL_succ,List.length_append]
  have:=linesL_le D line n
  have:=nowL_le D (line+(n:Nat))
  omega
def lookF (D:List Ce)(line c kd:Int):Fnd:=if homeF line c=true then match decF (linesL D line (spanF c)) with
 |some b=>⟨line,true,b⟩
 |none=>⟨line,false,⟨c,kd,0,0,0,[],[]⟩⟩
 else⟨line,false,⟨c,kd,0,0,0,[],[]⟩⟩
theorem dec_ok {l:List UInt8}{b:Blk}(hl:l.length≤1000)(h:decF l=some b):b.key.length≤100000∧b.val.length≤100000:=by
 unfold decF at h
 split at h
 ·cases h
 ·split at h
  ·rename_i hh
   have:=may_cap hh.2.2.1
   have h2:=capN_span (may_span hh.2.2.1)
   simp only[Option.some.injEq] at h
   subst h
   omega
  ·cases h
theorem look_ok (D:List Ce)(line c kd:Int):fdOk (lookF D line c kd):=by
 have h8:=linesL_le D line (spanF c)
 have h9:=span_le c
 unfold lookF
 split
 ·split
  ·rename_i b hb
   exact dec_ok om_ hb
  ·exact⟨by simp,by simp⟩
 ·exact⟨by simp,by simp⟩
theorem look_g (rb:Nat)(x:DvR)(D:List Ce)(k:Cnt)(r:Rvl)(line c kd:Int)(hl: -1000000≤line∧line≤1000000):Rx Tryz.prog 103 [.pointer (some ⟨rb,0,none⟩),.int .i64 line,.int .i64 c,.int .i64 kd] ([rvO rb x.db r]::dvS x D k) (.agg (fdC (lookF D line c kd)).toArray):=by
 intro w hs
 have hsp8:=span_le c
 refine Ca_ Tryz.func103 rfl Tryz.ntmps103 hs<|Sq<|Rg<|Le AA fun b8 _=>pA_ 7 ?_
 refine Lv (Bd (blC ⟨c,kd,0,0,0,[],[]⟩))<|Lv (Bd (fdC ⟨line,false,⟨c,kd,0,0,0,[],[]⟩⟩))<|Le AA fun b9 _=>LeN StW fun _ _=>pA_ 7 ?_
 refine Le (Cz_ (home_c line c)) fun _ _=>pA_ 3 ?_
 refine Cd_ rfl (fun h24=>?_) fun h24=>?_
 ·have h24:homeF line c=false:=by simpa using h24
  refine Sq<|Rg<|Lv (Lw (l:=fdC ⟨line,false,⟨c,kd,0,0,0,[],[]⟩⟩))<|LeN StW fun _ _=>Nl<|Ps<|Rt<|Tr<|PQ.retC rfl rfl in_ Tryz.isAgg146 (by exact Tryz.sizeOf146) ?_
  have e8:lookF D line c kd=⟨line,false,⟨c,kd,0,0,0,[],[]⟩⟩:=by unfold lookF;rw[if_neg (by simp[h24])]
  rw[e8]
  exact fr_ hs
 ·have h24:homeF line c=true:=by simpa using h24
  refine pA_ 11 ?_
  refine Le (Cz_ (span_c c)) fun _ _=>pA_ 4 ?_
  refine V.CW.perm (sg':=ownG 5 (byC (linesL D line 0)) none::[(b9,.cells (fdC (⟨line,false,⟨c,kd,0,0,0,[],[]⟩⟩:Fnd)).toArray 146 (0,0))]::[(b8,.cells (fdC fd0).toArray 146 (0,0))]::([rvO rb x.db r]::dvS x D k)) ?_ (.refl _)
  refine loopA (γ:=Nat×V.OwnO) (fun j=>[(0,.pointer (some ⟨rb,0,none⟩)),(1,.int .i64 line),(8,.pointer (some ⟨b8,0,none⟩)),(9,.pointer (some ⟨b9,0,none⟩)),(10,ownV (linesL D line j.1).length j.2),(27,.int .i64 (spanF c:Nat)),(28,.int .i64 (j.1:Nat))]) (fun j=>ownG 5 (byC (linesL D line j.1)) j.2::[(b9,.cells (fdC (⟨line,false,⟨c,kd,0,0,0,[],[]⟩⟩:Fnd)).toArray 146 (0,0))]::[(b8,.cells (fdC fd0).toArray 146 (0,0))]::([rvO rb x.db r]::dvS x D k)) (fun j=>j.1≤spanF c∧ownOk 1 (linesL D line j.1).length (byC (linesL D line j.1)) j.2) (fun j=>spanF c-j.1) ((0,none)) ⟨Nat.zero_le _,rfl,rfl⟩ fun j=>?_
  rintro⟨hj1,hj2⟩
  have hjl:=linesL_le D line j.1
  refine pA_ 6 ?_
  refine Cd_ rfl (fun h29=>?_) fun h29=>?_
  ·refine pA_ 15 ?_
   refine Lv (Ld (v:= .pointer (some ⟨x.db,0,none⟩)))<|pA_ 3 ?_
   refine Le (CM [] fun w hw hs0=>load_g x D k (line+(j.1:Nat)) w (hw.sat.pick (ss:=dvS x D k) pk_)) fun o2 ho2=>?_
   obtain⟨p2,c2,hv2,hc2,hsrc,hsl2⟩:=own_src ho2
   have hn64:=nowL_le D (line+(j.1:Nat))
   refine Lv Mv<|Lv Ex<|LW.re 40 (.slice p2 (nowL D (line+(j.1:Nat))).length c2) rfl hv2<|pA_ 8 ?_
   refine Le (Eff.appendAny (byC ((nowL D (line+(j.1:Nat))))) (sz:=1) (bytes:=1) (z:= .int .u8 0) (xs:=byC ((linesL D line j.1))) (m0:=(linesL D line j.1).length) (o:=j.2) (m:=(nowL D (line+(j.1:Nat))).length) (pk:=[ownG 5 (byC ((linesL D line j.1))) (j.2)]) rfl rfl Tryz.underlying133 kr_ rfl om_ pk_ (by simp) hj2 (by rw[V.byC_len];omega) (fun hm0=>by obtain⟨bq,hbq,hrq⟩:=hsrc hm0;exact⟨bq,0,hbq,fun w hw=>hrq hw pk_⟩) (V.byC_one _) om_ om_) fun o3 ho3=>?_
   rw[← V.byC_append,← linesL_succ] at*
   refine pA_ 8 ?_
   refine PQ.round ((j.1+1,o3)) ⟨by simp only;omega,by simp only;rw[show(linesL D line (j.1+1)).length=(linesL D line j.1).length+(nowL D (line+(j.1:Nat))).length by rw[linesL_succ,List.length_append]];exact ho3⟩ (by simp only;omega) (by exact⟨rfl,rfl,rfl,rfl,congrArg (fun z=>some (ownV z o3)) (by simp only;rw[linesL_succ,List.length_append]),rfl,rfl,trivial⟩) pk_
  ·have hj9:j.1=spanF c:=by omega
   obtain⟨j1,o⟩:=j
   simp only at hj9 hj2
   subst hj9
   have hll:=linesL_le D line (spanF c)
   obtain⟨pd,cd,hvd,hcd,_,hsd⟩:=own_src hj2
   refine pA_ 8 ?_
   refine LW.re 47 (.slice pd (linesL D line (spanF c)).length cd) rfl hvd<|Le (CV fun w hw=>decode_c (linesL D line (spanF c)) pd cd om_ hcd w (hsd hw pk_)) fun _ _=>?_
   rcases hdl:decF (linesL D line (spanF c)) with _|bl
   ·skip
    refine Lv Mv<|Lv Ex<|Lv Ex<|Le AA fun b14 _=>LeN StW fun _ _=>Lv Av<|Nl<|Ps<|Sq<|Sq<|Rg<|Lv Mv<|Lv Nt<|Nl<|Ps<|Ct<|Sq<|Rg<|Lv (Lw (l:=fdC ⟨line,false,⟨c,kd,0,0,0,[],[]⟩⟩))<|LeN StW fun _ _=>Nl<|Ps<|Rt<|Tr<|PQ.retC rfl rfl in_ Tryz.isAgg146 (by exact Tryz.sizeOf146) ?_
    have e8:lookF D line c kd=⟨line,false,⟨c,kd,0,0,0,[],[]⟩⟩:=by unfold lookF;rw[if_pos h24,hdl]
    rw[e8]
    exact fr_ hs
   ·skip
    refine Lv Mv<|Lv Ex<|Lv Ex<|Le AA fun b14 _=>LeN StW fun _ _=>Lv Av<|Nl<|Ps<|Sq<|Sq<|Rg<|Lv Mv<|Lv Nt<|Nl<|Ps<|Cf<|Sk<|Ps<|Sq<|Rg<|Lv Mv<|Lv (Lw (l:=blC bl))<|Lv (Bd (fdC ⟨line,true,bl⟩))<|LeN StW fun _ _=>Nl<|Ps<|Rt<|PQ.retC rfl rfl in_ Tryz.isAgg146 (by exact Tryz.sizeOf146) ?_
    have e8:lookF D line c kd=⟨line,true,bl⟩:=by unfold lookF;rw[if_pos h24,hdl]
    rw[e8]
    exact fr_ hs
end
section
attribute [local irreducible] V.CW V.LW V.QW V.RW V.PQ V.Val V.Eff V.Qcall
open V (str byC ownV ownG ownS ownOk)
instance:Cal Tryz.prog 101:=⟨Tryz.call101⟩
instance:Cal Tryz.prog 102:=⟨Tryz.call102⟩
instance:Cal Tryz.prog 103:=⟨Tryz.call103⟩
def opR (D:List Ce)(r:Rvl):Rvl:=if(openF D).2=0 then {r with e:=(openF D).1,ph:=1,nx:=0} else r
theorem ropen_g (rb:Nat)(x:DvR)(v:Dev)(r:Rvl)(hL:0<v.D.length∧v.D.length≤1000):Mo Tryz.prog 78 [.pointer (some ⟨rb,0,none⟩)] ([rvO rb x.db r]::vS x v) (fun _u:Unit=>True) (fun _=> .int .i64 (openF v.D).2) (fun _=>[rvO rb x.db (opR v.D r)]::vS x v):=by
 intro w hs
 refine Ca_ Tryz.func78 rfl Tryz.ntmps78 hs<|pA_ 10 ?_
 refine Lv (Ld (v:= .pointer (some ⟨x.db,0,none⟩)))<|Le (Cr_ (open_g x v hL)) fun _ _=>pA_ 14 ?_
 refine Cd_ rfl (fun h14=>?_) fun h14=>?_
 ·refine pA_ 9 ?_
  have e8:opR v.D r=r:=by unfold opR;rw[if_neg h14]
  rw[e8]
  exact fi_ () trivial
 ·refine pA_ 8 ?_
  refine LeN StS fun _ _=>pA_ 5 ?_
  refine Le (Cm_ (to_g rb x.db {r with e:=(openF v.D).1} 1)) fun _ _=>pA_ 5 ?_
  have h15:(openF v.D).2=0:=by simpa using h14
  have e8:opR v.D r={r with e:=(openF v.D).1,ph:=1,nx:=0}:=by unfold opR;rw[if_pos h15]
  rw[e8,h15]
  exact fi_ () trivial
def scN (D:List Ce)(nx:Int):Option Fnd:=match headF (nowL D (2+nx)) with
 |none=>none
 |some (c,kd)=>if kd=0 then none else some (lookF D (2+nx) (c:Nat) (kd:Nat))
def scR (D:List Ce)(r:Rvl)(o:V.OwnO):Rvl:=
 let f:=match scN D r.nx with
  |none=>r.fd
  |some y=>r.fd++[y]
 if slabsF D.length*8≤r.nx+1 then {r with fd:=f,fo:=o,ph:=2,nx:=0} else {r with fd:=f,fo:=o,nx:=r.nx+1}
theorem slabs_lt (n:Nat):0≤slabsF n∧slabsF n≤32:=by
 by_cases h:10≤n
 ·have:=slabs_rng h;omega
 ·unfold slabsF;rw[if_pos om_];omega
theorem rscan_g (rb:Nat)(x:DvR)(v:Dev)(r:Rvl)(hL:0<v.D.length∧v.D.length≤1000)(hr:RvOk r)(hn:r.nx≤256∧r.fd.length≤700)(w:World)(hs:Sat ([rvO rb x.db r]::[ownG 146 (r.fd.flatMap fdC) r.fo]++vS x v) w):Calls Tryz.prog 79 [.pointer (some ⟨rb,0,none⟩)].toArray w fun e w'=>∃o:V.OwnO,ownOk 9 (scR v.D r o).fd.length ((scR v.D r o).fd.flatMap fdC) o∧e= .returned (.int .i64 0)∧Hp ⟨w,V.ids ([rvO rb x.db r]::[ownG 146 (r.fd.flatMap fdC) r.fo]++vS x v)⟩ ([rvO rb x.db (scR v.D r o)]::[ownG 146 ((scR v.D r o).fd.flatMap fdC) o]++vS x v) w':=by
 have hnx:=hr.nx
 have hsl:=slabs_lt v.D.length
 refine Cs_ ([rvO rb x.db r]::[ownG 146 (r.fd.flatMap fdC) r.fo]++vS x v) Tryz.func79 rfl Tryz.ntmps79 hs<|pA_ 10 ?_
 refine Lv (Ld (v:= .int .i64 r.nx))<|pA_ 9 ?_
 refine Lv (Ld (v:= .pointer (some ⟨x.db,0,none⟩)))<|Lv Mv<|Le (CM [] fun w hw hs0=>load_g x v.D v.k (2+r.nx) w (hw.sat.pick (ss:=vS x v) pk_)) fun o1 ho1=>?_
 obtain⟨p1,c1,hv1,hc1,_,hs1⟩:=own_src ho1
 have hn64:=nowL_le v.D (2+r.nx)
 refine pA_ 11 ?_
 refine LW.re 24 (.slice p1 (nowL v.D (2+r.nx)).length c1) rfl hv1<|Le (CV fun w hw=>Head_c (nowL v.D (2+r.nx)) p1 c1 om_ w (hs1 hw pk_)) fun _ _=>?_
 rcases hh:headF (nowL v.D (2+r.nx)) with _|⟨c,kd⟩
 ·have hsc:scN v.D r.nx=none:=by unfold scN;rw[hh]
  refine pA_ 26 ?_
  refine Lv (Ld (v:= .int .i64 r.nx))<|pA_ 3 ?_
  refine LeN StS fun _ _=>pA_ 4 ?_
  refine Qt<|pA_ 3 ?_
  refine Qv (Ld (v:= .int .i64 (r.nx+1)))<|pA_ 3 ?_
  refine Qv (Ld (v:= .pointer (some ⟨x.db,0,none⟩)))<|Qc (QV fun w hw=>lines_g x.db v.D.length x.cap _ (ctC v.k) w hw.at)<|Qc (Qz_ (slabs_g (v.D.length:Nat)))<|pA_ 4 ?_
  refine Cd_ rfl (fun h66=>?_) fun h66=>?_
  ·refine pA_ 3 ?_
   refine Le (Cm_ (to_g rb x.db {r with nx:=r.nx+1} 2)) fun _ _=>pA_ 6 ?_
   have e8:scR v.D r r.fo={r with fd:=r.fd,fo:=r.fo,ph:=2,nx:=0}:=by
    unfold scR
    simp only[hsc]
    rw[if_pos om_]
   intro w' hw
   refine⟨r.fo,by rw[e8];exact hr.fd,rfl,?_⟩
   rw[e8]
   exact hw.pick pk_
  ·refine pA_ 9 ?_
   have e8:scR v.D r r.fo={r with fd:=r.fd,fo:=r.fo,nx:=r.nx+1}:=by
    unfold scR
    simp only[hsc]
    rw[if_neg om_]
   intro w' hw
   refine⟨r.fo,by rw[e8];exact hr.fd,rfl,?_⟩
   rw[e8]
   exact hw.pick pk_
 ·skip
  refine pA_ 18 ?_
  refine Cd_ rfl (fun h33=>?_) fun h33=>?_
  ·have hsc:scN v.D r.nx=some (lookF v.D (2+r.nx) (c:Nat) (kd:Nat)):=by unfold scN;rw[hh];exact if_neg om_
   refine Dr ([])<|pR_ [0,1,2,3,5,6,7,8] ?_
   refine RW.any [4,9] kr_ (by simp) fun i hi=>?_
   simp only[List.mem_cons,List.not_mem_nil,or_false] at hi
   rcases hi with rfl|rfl
   ·refine Ro rfl (Eff.ofVal (Ld (v:=ownV r.fd.length r.fo))) fun _ _=>Re 9 rfl (Cr_ (look_g rb x v.D v.k r (2+r.nx) (c:Nat) (kd:Nat) om_)) fun _ _=>Re 10 rfl (Eff.buildSlice (rfl) [_,_,_,_,_,_,_,_,_] Tryz.underlying60 Tryz.sizeOf146 (by exact Tryz.zeroValue146) rfl rfl rfl rfl (by rfl)) fun b44 _=>Re 11 rfl (Eff.appendAny (fdC (lookF v.D (2+r.nx) (c:Nat) (kd:Nat))) (sz:=9) (bytes:=88) (z:= .agg #[.int .i64 0,.bool false,.int .i64 0,.int .i64 0,.int .u64 0,.int .u64 0,.int .u64 0,.string ⟨#[]⟩,.string ⟨#[]⟩]) (xs:=r.fd.flatMap fdC) (m0:=r.fd.length) (o:=r.fo) (m:=1) (pk:=[ownG 146 (r.fd.flatMap fdC) (r.fo)]) rfl rfl Tryz.underlying60 kr_ rfl om_ pk_ (by simp) hr.fd (by rfl) (fun hm0=>⟨b44,0,rfl,fun w hw=>V.range_of_block (o:=0) (cs:=fdC (lookF v.D (2+r.nx) (c:Nat) (kd:Nat))) (r:=[]) (hw.own _ (show InS (b44,.cells (fdC (lookF v.D (2+r.nx) (c:Nat) (kd:Nat))).toArray 146 (0,0)) _ from in_).mem) rfl⟩) (by rfl) om_ om_) fun o2 ho2=>Rv 12 rfl Nz<|Rv 13 rfl (Fa 5 60)<|ReN 14 rfl (Eff.store (l':=rvC x.db {r with fd:=r.fd++[(lookF v.D (2+r.nx) (c:Nat) (kd:Nat))],fo:=o2}) rfl rfl (V.ownV_one _ _) up_ (by simp[rvC]) (by rfl) Tryz.sizeOf60) fun _ _=>Rd<|Ps<|Sq<|Rg<|Lv Mv<|Lv Nz<|Lv (Fa 4 3)<|Lv (Ld (v:= .int .i64 r.nx))<|Lv Ar<|Lv Nz<|Lv (Fa 4 3)<|LeN StS ?_
    intro _ _
    refine pA_ 4 ?_
    refine Qt<|pA_ 3 ?_
    refine Qv (Ld (v:= .int .i64 (r.nx+1)))<|pA_ 3 ?_
    refine Qv (Ld (v:= .pointer (some ⟨x.db,0,none⟩)))<|Qc (QV fun w hw=>lines_g x.db v.D.length x.cap _ (ctC v.k) w hw.at)<|Qc (Qz_ (slabs_g (v.D.length:Nat)))<|pA_ 4 ?_
    refine Cd_ rfl (fun h66=>?_) fun h66=>?_
    ·refine pA_ 3 ?_
     refine Le (Cm_ (to_g rb x.db {r with fd:=r.fd++[(lookF v.D (2+r.nx) (c:Nat) (kd:Nat))],fo:=o2,nx:=r.nx+1} 2)) fun _ _=>pA_ 6 ?_
     have e8:scR v.D r o2={r with fd:=r.fd++[(lookF v.D (2+r.nx) (c:Nat) (kd:Nat))],fo:=o2,ph:=2,nx:=0}:=by
      unfold scR
      simp only[hsc]
      rw[if_pos om_]
     rw[show r.fd.flatMap fdC++fdC (lookF v.D (2+r.nx) (c:Nat) (kd:Nat))=(r.fd++[(lookF v.D (2+r.nx) (c:Nat) (kd:Nat))]).flatMap fdC by rw[List.flatMap_append];rfl]
     intro w' hw
     refine⟨o2,by rw[e8];simp only[List.length_append,List.length_singleton,List.flatMap_append,List.flatMap_singleton];exact ho2,rfl,?_⟩
     rw[e8]
     simp only[]
     exact hw.pick pk_
    ·refine pA_ 9 ?_
     have e8:scR v.D r o2={r with fd:=r.fd++[(lookF v.D (2+r.nx) (c:Nat) (kd:Nat))],fo:=o2,nx:=r.nx+1}:=by
      unfold scR
      simp only[hsc]
      rw[if_neg om_]
     rw[show r.fd.flatMap fdC++fdC (lookF v.D (2+r.nx) (c:Nat) (kd:Nat))=(r.fd++[(lookF v.D (2+r.nx) (c:Nat) (kd:Nat))]).flatMap fdC by rw[List.flatMap_append];rfl]
     intro w' hw
     refine⟨o2,by rw[e8];simp only[List.length_append,List.length_singleton,List.flatMap_append,List.flatMap_singleton];exact ho2,rfl,?_⟩
     rw[e8]
     simp only[]
     exact hw.pick pk_
   ·refine Ro rfl (Cr_ (look_g rb x v.D v.k r (2+r.nx) (c:Nat) (kd:Nat) om_)) fun _ _=>RW.any [4,10] kr_ (by simp) fun i hi=>?_
    simp only[List.mem_cons,List.not_mem_nil,or_false] at hi
    rcases hi with rfl|rfl
    ·refine Ro rfl (Eff.ofVal (Ld (v:=ownV r.fd.length r.fo))) fun _ _=>Re 10 rfl (Eff.buildSlice (rfl) [_,_,_,_,_,_,_,_,_] Tryz.underlying60 Tryz.sizeOf146 (by exact Tryz.zeroValue146) rfl rfl rfl rfl (by rfl)) fun b44 _=>Re 11 rfl (Eff.appendAny (fdC (lookF v.D (2+r.nx) (c:Nat) (kd:Nat))) (sz:=9) (bytes:=88) (z:= .agg #[.int .i64 0,.bool false,.int .i64 0,.int .i64 0,.int .u64 0,.int .u64 0,.int .u64 0,.string ⟨#[]⟩,.string ⟨#[]⟩]) (xs:=r.fd.flatMap fdC) (m0:=r.fd.length) (o:=r.fo) (m:=1) (pk:=[ownG 146 (r.fd.flatMap fdC) (r.fo)]) rfl rfl Tryz.underlying60 kr_ rfl om_ pk_ (by simp) hr.fd (by rfl) (fun hm0=>⟨b44,0,rfl,fun w hw=>V.range_of_block (o:=0) (cs:=fdC (lookF v.D (2+r.nx) (c:Nat) (kd:Nat))) (r:=[]) (hw.own _ (show InS (b44,.cells (fdC (lookF v.D (2+r.nx) (c:Nat) (kd:Nat))).toArray 146 (0,0)) _ from in_).mem) rfl⟩) (by rfl) om_ om_) fun o2 ho2=>Rv 12 rfl Nz<|Rv 13 rfl (Fa 5 60)<|ReN 14 rfl (Eff.store (l':=rvC x.db {r with fd:=r.fd++[(lookF v.D (2+r.nx) (c:Nat) (kd:Nat))],fo:=o2}) rfl rfl (V.ownV_one _ _) up_ (by simp[rvC]) (by rfl) Tryz.sizeOf60) fun _ _=>Rd<|Ps<|Sq<|Rg<|Lv Mv<|Lv Nz<|Lv (Fa 4 3)<|Lv (Ld (v:= .int .i64 r.nx))<|Lv Ar<|Lv Nz<|Lv (Fa 4 3)<|LeN StS fun _ _=>Nl<|Ps<|Sq<|Sq<|Qt<|Qv Mv<|Qv Nz<|Qv (Fa 4 3)<|Qv (Ld (v:= .int .i64 (r.nx+1)))<|Qv Mv<|Qv Nz<|Qv (Fa 0 35)<|Qv (Ld (v:= .pointer (some ⟨x.db,0,none⟩)))<|Qc (QV fun w hw=>lines_g x.db v.D.length x.cap _ (ctC v.k) w hw.at)<|Qc (Qz_ (slabs_g (v.D.length:Nat)))<|Qv Ar<|Qv Cm<|Ql<|Ps ?_
     refine Cd_ rfl (fun h66=>?_) fun h66=>?_
     ·refine pA_ 3 ?_
      refine Le (Cm_ (to_g rb x.db {r with fd:=r.fd++[(lookF v.D (2+r.nx) (c:Nat) (kd:Nat))],fo:=o2,nx:=r.nx+1} 2)) fun _ _=>pA_ 6 ?_
      have e8:scR v.D r o2={r with fd:=r.fd++[(lookF v.D (2+r.nx) (c:Nat) (kd:Nat))],fo:=o2,ph:=2,nx:=0}:=by
       unfold scR
       simp only[hsc]
       rw[if_pos om_]
      rw[show r.fd.flatMap fdC++fdC (lookF v.D (2+r.nx) (c:Nat) (kd:Nat))=(r.fd++[(lookF v.D (2+r.nx) (c:Nat) (kd:Nat))]).flatMap fdC by rw[List.flatMap_append];rfl]
      intro w' hw
      refine⟨o2,by rw[e8];simp only[List.length_append,List.length_singleton,List.flatMap_append,List.flatMap_singleton];exact ho2,rfl,?_⟩
      rw[e8]
      simp only[]
      exact hw.pick pk_
     ·refine pA_ 9 ?_
      have e8:scR v.D r o2={r with fd:=r.fd++[(lookF v.D (2+r.nx) (c:Nat) (kd:Nat))],fo:=o2,nx:=r.nx+1}:=by
       unfold scR
       simp only[hsc]
       rw[if_neg om_]
      rw[show r.fd.flatMap fdC++fdC (lookF v.D (2+r.nx) (c:Nat) (kd:Nat))=(r.fd++[(lookF v.D (2+r.nx) (c:Nat) (kd:Nat))]).flatMap fdC by rw[List.flatMap_append];rfl]
      intro w' hw
      refine⟨o2,by rw[e8];simp only[List.length_append,List.length_singleton,List.flatMap_append,List.flatMap_singleton];exact ho2,rfl,?_⟩
      rw[e8]
      simp only[]
      exact hw.pick pk_
    ·refine Ro rfl (Eff.buildSlice (rfl) [_,_,_,_,_,_,_,_,_] Tryz.underlying60 Tryz.sizeOf146 (by exact Tryz.zeroValue146) rfl rfl rfl rfl (by rfl)) fun b44 _=>Re 4 rfl (Eff.ofVal (Ld (v:=ownV r.fd.length r.fo))) fun _ _=>Re 11 rfl (Eff.appendAny (fdC (lookF v.D (2+r.nx) (c:Nat) (kd:Nat))) (sz:=9) (bytes:=88) (z:= .agg #[.int .i64 0,.bool false,.int .i64 0,.int .i64 0,.int .u64 0,.int .u64 0,.int .u64 0,.string ⟨#[]⟩,.string ⟨#[]⟩]) (xs:=r.fd.flatMap fdC) (m0:=r.fd.length) (o:=r.fo) (m:=1) (pk:=[ownG 146 (r.fd.flatMap fdC) (r.fo)]) rfl rfl Tryz.underlying60 kr_ rfl om_ pk_ (by simp) hr.fd (by rfl) (fun hm0=>⟨b44,0,rfl,fun w hw=>V.range_of_block (o:=0) (cs:=fdC (lookF v.D (2+r.nx) (c:Nat) (kd:Nat))) (r:=[]) (hw.own _ (show InS (b44,.cells (fdC (lookF v.D (2+r.nx) (c:Nat) (kd:Nat))).toArray 146 (0,0)) _ from in_).mem) rfl⟩) (by rfl) om_ om_) fun o2 ho2=>Rv 12 rfl Nz<|Rv 13 rfl (Fa 5 60)<|ReN 14 rfl (Eff.store (l':=rvC x.db {r with fd:=r.fd++[(lookF v.D (2+r.nx) (c:Nat) (kd:Nat))],fo:=o2}) rfl rfl (V.ownV_one _ _) up_ (by simp[rvC]) (by rfl) Tryz.sizeOf60) fun _ _=>Rd<|Ps<|Sq<|Rg<|Lv Mv<|Lv Nz<|Lv (Fa 4 3)<|Lv (Ld (v:= .int .i64 r.nx))<|Lv Ar<|Lv Nz<|Lv (Fa 4 3)<|LeN StS fun _ _=>Nl<|Ps<|Sq<|Sq<|Qt<|Qv Mv<|Qv Nz<|Qv (Fa 4 3)<|Qv (Ld (v:= .int .i64 (r.nx+1)))<|Qv Mv<|Qv Nz<|Qv (Fa 0 35)<|Qv (Ld (v:= .pointer (some ⟨x.db,0,none⟩)))<|Qc (QV fun w hw=>lines_g x.db v.D.length x.cap _ (ctC v.k) w hw.at)<|Qc (Qz_ (slabs_g (v.D.length:Nat)))<|Qv Ar<|Qv Cm<|Ql<|Ps ?_
     refine Cd_ rfl (fun h66=>?_) fun h66=>?_
     ·refine pA_ 3 ?_
      refine Le (Cm_ (to_g rb x.db {r with fd:=r.fd++[(lookF v.D (2+r.nx) (c:Nat) (kd:Nat))],fo:=o2,nx:=r.nx+1} 2)) fun _ _=>pA_ 6 ?_
      have e8:scR v.D r o2={r with fd:=r.fd++[(lookF v.D (2+r.nx) (c:Nat) (kd:Nat))],fo:=o2,ph:=2,nx:=0}:=by
       unfold scR
       simp only[hsc]
       rw[if_pos om_]
      rw[show r.fd.flatMap fdC++fdC (lookF v.D (2+r.nx) (c:Nat) (kd:Nat))=(r.fd++[(lookF v.D (2+r.nx) (c:Nat) (kd:Nat))]).flatMap fdC by rw[List.flatMap_append];rfl]
      intro w' hw
      refine⟨o2,by rw[e8];simp only[List.length_append,List.length_singleton,List.flatMap_append,List.flatMap_singleton];exact ho2,rfl,?_⟩
      rw[e8]
      simp only[]
      exact hw.pick pk_
     ·refine pA_ 9 ?_
      have e8:scR v.D r o2={r with fd:=r.fd++[(lookF v.D (2+r.nx) (c:Nat) (kd:Nat))],fo:=o2,nx:=r.nx+1}:=by
       unfold scR
       simp only[hsc]
       rw[if_neg om_]
      rw[show r.fd.flatMap fdC++fdC (lookF v.D (2+r.nx) (c:Nat) (kd:Nat))=(r.fd++[(lookF v.D (2+r.nx) (c:Nat) (kd:Nat))]).flatMap fdC by rw[List.flatMap_append];rfl]
      intro w' hw
      refine⟨o2,by rw[e8];simp only[List.length_append,List.length_singleton,List.flatMap_append,List.flatMap_singleton];exact ho2,rfl,?_⟩
      rw[e8]
      simp only[]
      exact hw.pick pk_
  ·have hsc:scN v.D r.nx=none:=by unfold scN;rw[hh];exact if_pos om_
   refine pA_ 7 ?_
   refine Lv (Ld (v:= .int .i64 r.nx))<|pA_ 3 ?_
   refine LeN StS fun _ _=>pA_ 4 ?_
   refine Qt<|pA_ 3 ?_
   refine Qv (Ld (v:= .int .i64 (r.nx+1)))<|pA_ 3 ?_
   refine Qv (Ld (v:= .pointer (some ⟨x.db,0,none⟩)))<|Qc (QV fun w hw=>lines_g x.db v.D.length x.cap _ (ctC v.k) w hw.at)<|Qc (Qz_ (slabs_g (v.D.length:Nat)))<|pA_ 4 ?_
   refine Cd_ rfl (fun h66=>?_) fun h66=>?_
   ·refine pA_ 3 ?_
    refine Le (Cm_ (to_g rb x.db {r with nx:=r.nx+1} 2)) fun _ _=>pA_ 6 ?_
    have e8:scR v.D r r.fo={r with fd:=r.fd,fo:=r.fo,ph:=2,nx:=0}:=by
     unfold scR
     simp only[hsc]
     rw[if_pos om_]
    intro w' hw
    refine⟨r.fo,by rw[e8];exact hr.fd,rfl,?_⟩
    rw[e8]
    exact hw.pick pk_
   ·refine pA_ 9 ?_
    have e8:scR v.D r r.fo={r with fd:=r.fd,fo:=r.fo,nx:=r.nx+1}:=by
     unfold scR
     simp only[hsc]
     rw[if_neg om_]
    intro w' hw
    refine⟨r.fo,by rw[e8];exact hr.fd,rfl,?_⟩
    rw[e8]
    exact hw.pick pk_
end
end G
end Go.Proofs.YtjidffamcdcecaaGreat
namespace Go.Proofs.YtjidffamcdcecaaGreat.V
open Go Go.RowKit
set_option linter.unusedVariables false
section
variable {P:Program}{n:Nat}{B:Base}{ks:Ks}{sg:Sg}{d:Option Tmp}{ty:TypeId}{pos:String}{aft:Array Edge}{g:Option (Nat×Bool)}
theorem run_callB {f:FuncId}{x:Operand}{pre caps:List Value}{xs:List Operand}{vs:List Value}{ats:Array TypeId}{a:Act}(w:World)(ha:Fr n ks a)(hx:ev ks x=some (.func (.func f) pre.toArray caps.toArray))(hxs:evs ks xs=some vs)(hc:∀(args:Array Value) (w:World),(callFunc f args).run P w= .ok (.enter f args) w):
 (execOp a.eval ⟨d,.call {callee:= .value x,args:=xs.toArray,argTypes:=ats},ty,pos,aft,g⟩).run P w= .ok (.enter f (pre++vs++caps).toArray) w:=by
 have hm:=ha.evs hxs
 have h0:=ha.ev hx
 simp only[execOp,resolve,h0,Deferred.ofValue,Sem.run_bind,Sem.run_pure,Result.andThen_ok,invoke,List.map_toArray,hm]
 simp[hc]
theorem Eff.callBV {v:Value}{f:FuncId}{x:Operand}{pre caps:List Value}{xs:List Operand}{vs:List Value}{ats:Array TypeId}(hx:ev ks x=some (.func (.func f) pre.toArray caps.toArray))(hxs:evs ks xs=some vs)(hc:∀(args:Array Value) (w:World),(callFunc f args).run P w= .ok (.enter f args) w)
 (h:∀w,Hp B sg w→Calls P f (pre++vs++caps).toArray w (fun e w'=>e= .returned v∧Below w.heap.size w w')):
 Eff P n B ⟨d,.call {callee:= .value x,args:=xs.toArray,argTypes:=ats},ty,pos,aft,g⟩ ks sg (α:=Unit) (fun _=>True) (fun _=>v) (fun _=>sg):=fun a w K Q ha hw hk=>by
 unfold Oper.wp
 rw[run_callB w ha hx hxs hc]
 exact(h w hw).mono fun e w' ⟨he,hb⟩=>by subst he;exact hk () w' trivial (hw.call_ro hb)
end
end Go.Proofs.YtjidffamcdcecaaGreat.V
namespace Go.Proofs.YtjidffamcdcecaaGreat
open Go Go.RowKit V
set_option linter.unusedVariables false
set_option maxRecDepth 100000
set_option maxHeartbeats 1000000
namespace G
section
attribute [local irreducible] V.CW V.LW V.QW V.RW V.PQ V.Val V.Eff V.Qcall
open V (str byC ownV ownG ownS ownOk)
instance:Cal Tryz.prog 104:=⟨Tryz.call104⟩
instance:Cal Tryz.prog 108:=⟨Tryz.call108⟩
instance:Cal Tryz.prog 156:=⟨Tryz.call156⟩
def scrubF (e:Int)(fd:List Fnd)(f:Fnd):Bool:= !antiF e f&& !keepF e fd f
theorem scrub1_g (pb rb db:Nat)(r:Rvl)(hr:RvOk r)(f:Fnd):Rx Tryz.prog 107 [.agg (fdC f).toArray,.pointer (some ⟨pb,0,none⟩)] ([(pb,.cells [.pointer (some ⟨rb,0,none⟩)].toArray 45 (0,0))]::rvS rb db r) (.bool (scrubF r.e r.fd f)):=by
 intro w hs
 refine Ca_ Tryz.func107 rfl Tryz.ntmps107 hs<|Sq<|Rg<|Le XA fun b2 _=>pA_ 5 ?_
 refine Lv (Ld (v:= .pointer (some ⟨rb,0,none⟩)))<|Lv (Lw (l:=fdC f))<|Le (CV fun w hw=>anti_g rb db r f w hw.at) fun _ _=>Lv Nt<|Lv Mv ?_
 refine LW.split (d:=8) rfl (fun h8=>?_) (fun h8=>?_)
 ·replace h8:=bT h8
  refine Lv (Ld (v:= .pointer (some ⟨rb,0,none⟩)))<|Lv (Lw (l:=fdC f))<|Le (Cr_ (keeps_g rb db r hr f)) fun _ _=>pA_ 7 ?_
  intro w' hw;exact⟨by unfold scrubF;simp_all,hw.ro pk_ hs⟩
 ·replace h8:=bF h8
  refine pA_ 10 ?_
  intro w' hw;exact⟨by unfold scrubF;simp_all,hw.ro pk_ hs⟩
def wipeV (v:Dev)(f:Fnd):Dev:=(v.store f.line 0 (draftL f.b.cls)).flush f.line
def nextW (q:Fnd→Bool):List Fnd→Option (Nat×Fnd)
 |[]=>none
 |f::r=>if q f=true then some (0,f) else(nextW q r).map fun p=>(p.1+1,p.2)
def wpV (q:Fnd→Bool)(v:Dev)(r:Rvl):Dev:=match nextW q (r.fd.drop r.nx.toNat) with
 |some p=>wipeV v p.2
 |none=>v.fence
def wpR (q:Fnd→Bool)(r:Rvl)(p:Int):Rvl:=match nextW q (r.fd.drop r.nx.toNat) with
 |some y=>{r with nx:=r.nx+((y.1+1:Nat):Int)}
 |none=>{r with ph:=p,nx:=0}
theorem drop_c2 {α:Type}{L:List α}{i:Nat}{s:α}(h:L[i]? =some s):L.drop i=s::L.drop (i+1):=by
 obtain⟨hi,hv⟩:=List.getElem?_eq_some_iff.1 h
 rw[List.drop_eq_getElem_cons hi,hv]
theorem nextW_no {q:Fnd→Bool}{l:List Fnd}{a j:Nat}(hj:∀i,a≤i→i<j→∀f,l[i]? =some f→q f=false)(haj:a≤j):nextW q (l.drop a)=(nextW q (l.drop j)).map fun p=>(p.1+(j-a),p.2):=by
 induction j with
 |zero=>
  obtain rfl:a=0:=by omega
  cases nextW q (l.drop 0)<;>simp
 |succ j ih=>
  by_cases e:a=j+1
  ·subst e
   cases nextW q (l.drop (j+1))<;>simp
  ·rw[ih (fun i h1 h2=>hj i h1 om_) om_]
   cases hl:l[j]? with
   |none=>
    rw[List.drop_eq_nil_iff.2 (by rw[List.getElem?_eq_none_iff] at hl;omega),List.drop_eq_nil_iff.2 (by rw[List.getElem?_eq_none_iff] at hl;omega)];rfl
   |some f=>
    have h8:=hj j om_ om_ f hl
    rw[drop_c2 hl]
    show Option.map _ (if q f=true then _ else _)=_
    rw[if_neg (by rw[h8];decide),Option.map_map]
    congr 1
    funext p
    simp only[Function.comp,Prod.mk.injEq,and_true]
    omega
theorem nextW_yes {q:Fnd→Bool}{l:List Fnd}{a j:Nat}{f:Fnd}(hj:∀i,a≤i→i<j→∀f,l[i]? =some f→q f=false)(haj:a≤j)(hf:l[j]? =some f)(hq:q f=true):nextW q (l.drop a)=some (j-a,f):=by
 rw[nextW_no hj haj,drop_c2 hf]
 show Option.map _ (if q f=true then some (0,f) else _)=_
 rw[if_pos hq]
 simp
theorem nextW_end {q:Fnd→Bool}{l:List Fnd}{a:Nat}(hj:∀i,a≤i→i<l.length→∀f,l[i]? =some f→q f=false)(h:a≤l.length):nextW q (l.drop a)=none:=by
 rw[nextW_no hj h,List.drop_length];rfl
theorem flk9_at {l:List Fnd}{i:Nat}{y:Fnd}{rest:List Value}(h:l[i]? =some y):∃q,(l.flatMap fdC++rest).drop (0+i*9)=fdC y++q:=by
 obtain⟨r,hr⟩:=V.drop_flatMap fdC_len l i y h
 have hlt:=(List.getElem?_eq_some_iff.1 h).1
 have hlen:=V.flatMap_len (enc:=fdC) (k:=9) fdC_len l
 have h2:i*9+9≤l.length*9:=by omega
 exact⟨r++rest,by rw[Nat.zero_add,List.drop_append_of_le_length om_,hr,List.append_assoc]⟩
theorem draft_le (c:Int):(draftL c).length≤64:=by
 by_cases h:spanF c=0
 ·unfold draftL;rw[if_pos h];simp
 ·rw[draftL_len h];omega
theorem own_not {B:V.Base}{sg r:V.Sg}{w:World}{l:List UInt8}{y:V.OwnO}{p:Option Addr}{c:Nat}{x:DvR}{v:Dev}(hw:Hp B sg w)(hv:ownV l.length y= .slice p l.length c)(hp:Pick (ownG 5 (byC l) y::vS x v) sg r):∀b o,p=some ⟨b,o,none⟩→b∉V.ids (vS x v):=by
 intro b o hb
 rcases y with _|⟨g,r2,cap⟩
 ·have h8:ownV l.length none= .slice none 0 0:=rfl
  rw[h8] at hv
  injection hv with h9
  rw[hb] at h9;cases h9
 ·have h8:ownV l.length (some (g,r2,cap))= .slice (some ⟨g,0,none⟩) l.length cap:=rfl
  rw[h8] at hv
  injection hv with h9
  rw[hb] at h9
  simp only[Option.some.injEq,Addr.mk.injEq] at h9
  rw[← h9.1]
  exact not_in (hw.pick hp) (show Pick (vS x v) _ _ from pk_) (show InS (g,.cells (byC l++r2).toArray 5 (0,0)) _ from in_)
theorem wipeS_g (pb:Nat)(rb:Nat)(x:DvR)(v:Dev)(r:Rvl)(hr:RvOk r)(hn:r.nx≤r.fd.length)(hL:v.D.length≤1000)(p:Int):Mo Tryz.prog 106 [.pointer (some ⟨rb,0,none⟩),.func (.func 107) #[] #[.pointer (some ⟨pb,0,none⟩)],.int .i64 p] ([(pb,.cells [.pointer (some ⟨rb,0,none⟩)].toArray 45 (0,0))]::(rvS rb x.db r++vS x v)) (fun _u:Unit=>True) (fun _=> .int .i64 0) (fun _=>[(pb,.cells [.pointer (some ⟨rb,0,none⟩)].toArray 45 (0,0))]::(rvS rb x.db (wpR (scrubF r.e r.fd) r p)++vS x (wpV (scrubF r.e r.fd) v r))):=by
 intro w hs
 have hnx:=hr.nx
 have hfl:=hr.fl
 obtain⟨n0,hn0⟩:∃n0:Nat,r.nx=n0:=⟨r.nx.toNat,by omega⟩
 obtain⟨ps,cs,hvs,_⟩:=own_slF r.fd r.fo hr.fd
 refine Ca_ Tryz.func106 rfl Tryz.ntmps106 hs<|pA_ 7 ?_
 refine V.CW.perm (sg':=[(pb,.cells [.pointer (some ⟨rb,0,none⟩)].toArray 45 (0,0))]::(rvS rb x.db {r with nx:=((n0:Nat):Int)}++vS x v)) ?_ (by
  have h8:r={r with nx:=((n0:Nat):Int)}:=by rw[← hn0]
  exact .of_eq (congrArg (fun z:Rvl=>([(pb,.cells [.pointer (some ⟨rb,0,none⟩)].toArray 45 (0,0))]::(rvS rb x.db z++vS x v):Sg).flatten) h8))
 refine loopA (γ:=Nat) (fun j=>[(0,.pointer (some ⟨rb,0,none⟩)),(1,.func (.func 107) #[] #[.pointer (some ⟨pb,0,none⟩)]),(2,.int .i64 p)]) (fun j=>[(pb,.cells [.pointer (some ⟨rb,0,none⟩)].toArray 45 (0,0))]::(rvS rb x.db ({r with nx:=(j:Nat)}:Rvl)++vS x v)) (fun j=>j≤r.fd.length∧n0≤j∧∀i,n0≤i→i<j→∀f,r.fd[i]? =some f→(scrubF r.e r.fd) f=false) (fun j=>r.fd.length-j) (n0) ⟨by omega,Nat.le_refl _,fun i h1 h2=>by omega⟩ fun j=>?_
 rintro⟨hj1,hj0,hjj⟩
 refine Sq<|Sq<|Qt<|pA_ 3 ?_
 refine Qv (Ld (v:= .int .i64 (j:Nat)))<|pA_ 3 ?_
 refine Qv (Ld (v:=ownV r.fd.length r.fo))<|QW.re 15 (.slice ps r.fd.length cs) rfl hvs<|pA_ 4 ?_
 refine Cd_ rfl (fun h17=>?_) fun h17=>?_
 ·obtain⟨f,hf⟩:∃f,r.fd[j]? =some f:=⟨r.fd[j]'om_,by simp⟩
  obtain⟨g,rest,cap,hfo⟩:∃g r2 c,r.fo=some (g,r2,c):=by
   rcases hfo:r.fo with _|⟨g,r2,c⟩
   ·have:=hr.fd;rw[hfo] at this;exact absurd this.2 om_
   ·exact⟨g,r2,c,rfl⟩
  obtain⟨q2,hq2⟩:=flk9_at (rest:=rest) hf
  have hsg:ownG 146 (r.fd.flatMap fdC) r.fo=[(g,.cells (r.fd.flatMap fdC++rest).toArray 146 (0,0))]:=by rw[hfo];rfl
  refine V.CW.perm (sg':=[(pb,.cells [.pointer (some ⟨rb,0,none⟩)].toArray 45 (0,0))]::[rvO rb x.db {r with nx:=(j:Nat)}]::[(g,.cells (r.fd.flatMap fdC++rest).toArray 146 (0,0))]::ownG 146 (r.kp.flatMap fdC) r.ko::vS x v) ?_ (.of_eq (congrArg (fun z:V.Seg=>([(pb,.cells [.pointer (some ⟨rb,0,none⟩)].toArray 45 (0,0))]::[rvO rb x.db {r with nx:=(j:Nat)}]::z::ownG 146 (r.kp.flatMap fdC) r.ko::vS x v:Sg).flatten) hsg))
  refine pA_ 4 ?_
  refine Dr ([[rvO rb x.db {r with nx:=(j:Nat)}],[(g,.cells (r.fd.flatMap fdC++rest).toArray 146 (0,0))]])<|pR_ [0,1,2] ?_
  refine Rv 3 rfl (Ld (v:=ownV r.fd.length r.fo))<|RW.re 21 (.slice (some ⟨g,0,none⟩) r.fd.length cap) rfl (by rw[hfo];rfl)<|pR_ [4,5,6] ?_
  refine Rv 7 rfl (Ld (v:= .int .i64 (j:Nat)))<|Rv 8 rfl (Val.indexAddrN (i:=j) rfl rfl Tryz.underlying60 Tryz.sizeOf146 om_)<|Rv 9 rfl (La (fdC f) (hl:=hq2))<|Re 10 rfl AA fun b7 _=>ReN 11 rfl StW fun _ _=>pA_ 7 ?_
  refine Lv (Ld (v:= .int .i64 (j:Nat)))<|pA_ 3 ?_
  refine LeN StS fun _ _=>pA_ 5 ?_
  refine Lv (Lw (l:=fdC f))<|Le (Eff.callFV (f:=107) (caps:=[.pointer (some ⟨pb,0,none⟩)]) rfl rfl Tryz.call107 (fun w hw=>scrub1_g pb rb x.db {r with nx:=((j+1:Nat):Int)} ⟨hr.fd,hr.kp,hr.fl,hr.tx,by simp only;omega⟩ f w (by have h8:=hw.sat.pick (ss:=[(pb,.cells [.pointer (some ⟨rb,0,none⟩)].toArray 45 (0,0))]::[rvO rb x.db {r with nx:=((j+1:Nat):Int)}]::[(g,.cells (r.fd.flatMap fdC++rest).toArray 146 (0,0))]::[ownG 146 (r.kp.flatMap fdC) r.ko]) pk_;rw[← hsg] at h8;exact h8))) fun _ _=>Nl<|Ps ?_
  refine Cd_ rfl (fun h37=>?_) fun h37=>?_
  ·have h37:(scrubF r.e r.fd) f=true:=h37
   refine Sq<|Dr ([[rvO rb x.db {r with nx:=((j+1:Nat):Int)}],[(b7,.cells (fdC f).toArray 146 (0,0))]])<|pR_ [0,1,2] ?_
   refine Rv 3 rfl (Ld (v:= .pointer (some ⟨x.db,0,none⟩)))<|Rv 4 rfl (Fa 0 3)<|Rv 5 rfl (Ld (v:= .int .i64 f.line))<|pR_ [6,7] ?_
   refine Rv 8 rfl (Ld (v:= .int .i64 f.b.cls))<|Re 9 rfl (CM [] fun w hw hs0=>draft_c f.b.cls w) fun o1 ho1=>?_
   obtain⟨p1,c1,hv1,hc1,_,hs1⟩:=own_src ho1
   have hn64:=draft_le f.b.cls
   refine RW.re 47 (.slice p1 (draftL f.b.cls).length c1) rfl hv1<|Re 10 rfl (CM (vS x v) fun w hw hs0=>by have h8:=store_g x v.D v.k f.line 0 (draftL f.b.cls) p1 c1 om_ w hs0 (hs1 hw pk_) (own_not hw hv1 (show Pick (ownG 5 (byC (draftL f.b.cls)) o1::vS x v) _ _ from pk_));exact h8) fun _ _=>pA_ 3 ?_
   refine Dr ([[rvO rb x.db {r with nx:=((j+1:Nat):Int)}],[(b7,.cells (fdC f).toArray 146 (0,0))]])<|pR_ [0,1,2] ?_
   refine Rv 3 rfl (Ld (v:= .pointer (some ⟨x.db,0,none⟩)))<|Rv 4 rfl (Fa 0 3)<|Rv 5 rfl (Ld (v:= .int .i64 f.line))<|Re 6 rfl (Cm_ (flush_g x (v.store f.line 0 (draftL f.b.cls)).D (v.store f.line 0 (draftL f.b.cls)).k f.line)) fun _ _=>pA_ 13 ?_
   have e8:nextW (scrubF r.e r.fd) (r.fd.drop r.nx.toNat)=some (j-n0,f):=by rw[hn0,Int.toNat_natCast];exact nextW_yes hjj hj0 hf h37
   have e9:wpV (scrubF r.e r.fd) v r=wipeV v f:=by unfold wpV;rw[e8]
   have e7:wpR (scrubF r.e r.fd) r p={r with nx:=((j+1:Nat):Int)}:=by unfold wpR;rw[e8];simp only;congr 1;omega
   rw[e9,e7]
   intro w' hw
   rw[← hsg] at hw
   exact⟨(),trivial,rfl,hw.pick pk_⟩
  ·have h37:(scrubF r.e r.fd) f=false:=h37
   refine Sk<|Bn ?_
   rw[← hsg]
   refine PQ.round (j+1) ⟨by omega,by omega,fun i h1 h2 f2 hf2=>by
    rcases Nat.lt_or_ge i j with h|h
    ·exact hjj i h1 h f2 hf2
    ·have e:i=j:=by omega
     rw[e,hf] at hf2;cases hf2;exact h37⟩ om_ (by repeat(first|exact trivial|refine⟨rfl,?_⟩)) pk_
 ·refine pA_ 10 ?_
  refine Lv (Ld (v:= .pointer (some ⟨x.db,0,none⟩)))<|Le (Cm_ (fence_g x v.D v.k om_)) fun _ _=>pA_ 6 ?_
  refine Le (Cm_ (to_g rb x.db {r with nx:=(j:Nat)} p)) fun _ _=>pA_ 5 ?_
  have hj9:j=r.fd.length:=by omega
  have e8:nextW (scrubF r.e r.fd) (r.fd.drop r.nx.toNat)=none:=by rw[hn0,Int.toNat_natCast];exact nextW_end (fun i h1 h2=>hjj i h1 om_) om_
  have e9:wpV (scrubF r.e r.fd) v r=v.fence:=by unfold wpV;rw[e8]
  have e7:wpR (scrubF r.e r.fd) r p={r with ph:=p,nx:=0}:=by unfold wpR;rw[e8]
  rw[e9,e7]
  exact fi_ () trivial
theorem wipeA_g (rb:Nat)(x:DvR)(v:Dev)(r:Rvl)(hr:RvOk r)(hn:r.nx≤r.fd.length)(hL:v.D.length≤1000)(p:Int):Mo Tryz.prog 106 [.pointer (some ⟨rb,0,none⟩),.func (.func 108) #[.pointer (some ⟨rb,0,none⟩)] #[],.int .i64 p] ((rvS rb x.db r++vS x v)) (fun _u:Unit=>True) (fun _=> .int .i64 0) (fun _=>rvS rb x.db (wpR (antiF r.e) r p)++vS x (wpV (antiF r.e) v r)):=by
 intro w hs
 have hnx:=hr.nx
 have hfl:=hr.fl
 obtain⟨n0,hn0⟩:∃n0:Nat,r.nx=n0:=⟨r.nx.toNat,by omega⟩
 obtain⟨ps,cs,hvs,_⟩:=own_slF r.fd r.fo hr.fd
 refine Ca_ Tryz.func106 rfl Tryz.ntmps106 hs<|pA_ 7 ?_
 refine V.CW.perm (sg':=(rvS rb x.db {r with nx:=((n0:Nat):Int)}++vS x v)) ?_ (by
  have h8:r={r with nx:=((n0:Nat):Int)}:=by rw[← hn0]
  exact .of_eq (congrArg (fun z:Rvl=>((rvS rb x.db z++vS x v):Sg).flatten) h8))
 refine loopA (γ:=Nat) (fun j=>[(0,.pointer (some ⟨rb,0,none⟩)),(1,.func (.func 108) #[.pointer (some ⟨rb,0,none⟩)] #[]),(2,.int .i64 p)]) (fun j=>(rvS rb x.db ({r with nx:=(j:Nat)}:Rvl)++vS x v)) (fun j=>j≤r.fd.length∧n0≤j∧∀i,n0≤i→i<j→∀f,r.fd[i]? =some f→(antiF r.e) f=false) (fun j=>r.fd.length-j) (n0) ⟨by omega,Nat.le_refl _,fun i h1 h2=>by omega⟩ fun j=>?_
 rintro⟨hj1,hj0,hjj⟩
 refine Sq<|Sq<|Qt<|pA_ 3 ?_
 refine Qv (Ld (v:= .int .i64 (j:Nat)))<|pA_ 3 ?_
 refine Qv (Ld (v:=ownV r.fd.length r.fo))<|QW.re 15 (.slice ps r.fd.length cs) rfl hvs<|pA_ 4 ?_
 refine Cd_ rfl (fun h17=>?_) fun h17=>?_
 ·obtain⟨f,hf⟩:∃f,r.fd[j]? =some f:=⟨r.fd[j]'om_,by simp⟩
  obtain⟨g,rest,cap,hfo⟩:∃g r2 c,r.fo=some (g,r2,c):=by
   rcases hfo:r.fo with _|⟨g,r2,c⟩
   ·have:=hr.fd;rw[hfo] at this;exact absurd this.2 om_
   ·exact⟨g,r2,c,rfl⟩
  obtain⟨q2,hq2⟩:=flk9_at (rest:=rest) hf
  have hsg:ownG 146 (r.fd.flatMap fdC) r.fo=[(g,.cells (r.fd.flatMap fdC++rest).toArray 146 (0,0))]:=by rw[hfo];rfl
  refine V.CW.perm (sg':=[rvO rb x.db {r with nx:=(j:Nat)}]::[(g,.cells (r.fd.flatMap fdC++rest).toArray 146 (0,0))]::ownG 146 (r.kp.flatMap fdC) r.ko::vS x v) ?_ (.of_eq (congrArg (fun z:V.Seg=>([rvO rb x.db {r with nx:=(j:Nat)}]::z::ownG 146 (r.kp.flatMap fdC) r.ko::vS x v:Sg).flatten) hsg))
  refine pA_ 4 ?_
  refine Dr ([[rvO rb x.db {r with nx:=(j:Nat)}],[(g,.cells (r.fd.flatMap fdC++rest).toArray 146 (0,0))]])<|pR_ [0,1,2] ?_
  refine Rv 3 rfl (Ld (v:=ownV r.fd.length r.fo))<|RW.re 21 (.slice (some ⟨g,0,none⟩) r.fd.length cap) rfl (by rw[hfo];rfl)<|pR_ [4,5,6] ?_
  refine Rv 7 rfl (Ld (v:= .int .i64 (j:Nat)))<|Rv 8 rfl (Val.indexAddrN (i:=j) rfl rfl Tryz.underlying60 Tryz.sizeOf146 om_)<|Rv 9 rfl (La (fdC f) (hl:=hq2))<|Re 10 rfl AA fun b7 _=>ReN 11 rfl StW fun _ _=>pA_ 7 ?_
  refine Lv (Ld (v:= .int .i64 (j:Nat)))<|pA_ 3 ?_
  refine LeN StS fun _ _=>pA_ 5 ?_
  refine Lv (Lw (l:=fdC f))<|Le (Eff.callBV (f:=108) (pre:=[.pointer (some ⟨rb,0,none⟩)]) (caps:=[]) rfl rfl Tryz.call108 (fun w hw=>anti_g rb x.db {r with nx:=((j+1:Nat):Int)} f w hw.at)) fun _ _=>Nl<|Ps ?_
  refine Cd_ rfl (fun h37=>?_) fun h37=>?_
  ·have h37:(antiF r.e) f=true:=h37
   refine Sq<|Dr ([[rvO rb x.db {r with nx:=((j+1:Nat):Int)}],[(b7,.cells (fdC f).toArray 146 (0,0))]])<|pR_ [0,1,2] ?_
   refine Rv 3 rfl (Ld (v:= .pointer (some ⟨x.db,0,none⟩)))<|Rv 4 rfl (Fa 0 3)<|Rv 5 rfl (Ld (v:= .int .i64 f.line))<|pR_ [6,7] ?_
   refine Rv 8 rfl (Ld (v:= .int .i64 f.b.cls))<|Re 9 rfl (CM [] fun w hw hs0=>draft_c f.b.cls w) fun o1 ho1=>?_
   obtain⟨p1,c1,hv1,hc1,_,hs1⟩:=own_src ho1
   have hn64:=draft_le f.b.cls
   refine RW.re 47 (.slice p1 (draftL f.b.cls).length c1) rfl hv1<|Re 10 rfl (CM (vS x v) fun w hw hs0=>by have h8:=store_g x v.D v.k f.line 0 (draftL f.b.cls) p1 c1 om_ w hs0 (hs1 hw pk_) (own_not hw hv1 (show Pick (ownG 5 (byC (draftL f.b.cls)) o1::vS x v) _ _ from pk_));exact h8) fun _ _=>pA_ 3 ?_
   refine Dr ([[rvO rb x.db {r with nx:=((j+1:Nat):Int)}],[(b7,.cells (fdC f).toArray 146 (0,0))]])<|pR_ [0,1,2] ?_
   refine Rv 3 rfl (Ld (v:= .pointer (some ⟨x.db,0,none⟩)))<|Rv 4 rfl (Fa 0 3)<|Rv 5 rfl (Ld (v:= .int .i64 f.line))<|Re 6 rfl (Cm_ (flush_g x (v.store f.line 0 (draftL f.b.cls)).D (v.store f.line 0 (draftL f.b.cls)).k f.line)) fun _ _=>pA_ 13 ?_
   have e8:nextW (antiF r.e) (r.fd.drop r.nx.toNat)=some (j-n0,f):=by rw[hn0,Int.toNat_natCast];exact nextW_yes hjj hj0 hf h37
   have e9:wpV (antiF r.e) v r=wipeV v f:=by unfold wpV;rw[e8]
   have e7:wpR (antiF r.e) r p={r with nx:=((j+1:Nat):Int)}:=by unfold wpR;rw[e8];simp only;congr 1;omega
   rw[e9,e7]
   intro w' hw
   rw[← hsg] at hw
   exact⟨(),trivial,rfl,hw.pick pk_⟩
  ·have h37:(antiF r.e) f=false:=h37
   refine Sk<|Bn ?_
   rw[← hsg]
   refine PQ.round (j+1) ⟨by omega,by omega,fun i h1 h2 f2 hf2=>by
    rcases Nat.lt_or_ge i j with h|h
    ·exact hjj i h1 h f2 hf2
    ·have e:i=j:=by omega
     rw[e,hf] at hf2;cases hf2;exact h37⟩ om_ (by repeat(first|exact trivial|refine⟨rfl,?_⟩)) pk_
 ·refine pA_ 10 ?_
  refine Lv (Ld (v:= .pointer (some ⟨x.db,0,none⟩)))<|Le (Cm_ (fence_g x v.D v.k om_)) fun _ _=>pA_ 6 ?_
  refine Le (Cm_ (to_g rb x.db {r with nx:=(j:Nat)} p)) fun _ _=>pA_ 5 ?_
  have hj9:j=r.fd.length:=by omega
  have e8:nextW (antiF r.e) (r.fd.drop r.nx.toNat)=none:=by rw[hn0,Int.toNat_natCast];exact nextW_end (fun i h1 h2=>hjj i h1 om_) om_
  have e9:wpV (antiF r.e) v r=v.fence:=by unfold wpV;rw[e8]
  have e7:wpR (antiF r.e) r p={r with ph:=p,nx:=0}:=by unfold wpR;rw[e8]
  rw[e9,e7]
  exact fi_ () trivial
end
end G
end Go.Proofs.YtjidffamcdcecaaGreat
