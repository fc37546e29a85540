import Derived.Test.YtpjmdbifacijoaaGreatDoorQa2
/- What the law leans on, part 3. -/
namespace Go.Proofs.YtpjmdbifacijoaaGreatDoor
open Go Go.RowKit V
set_option linter.unusedVariables false
set_option maxRecDepth 100000
namespace G
open V (str byC ownV ownG ownS ownOk)
theorem lk_drop (l:List Lk)(k:Nat)(rest:List Value)(hk:k≤l.length):(l.flatMap lkC++rest).drop (k*5)=(l.drop k).flatMap lkC++rest:=by
 have e:l.flatMap lkC=(l.take k).flatMap lkC++(l.drop k).flatMap lkC:=by rw[← List.flatMap_append,List.take_append_drop]
 have hl:((l.take k).flatMap lkC).length=k*5:=by rw[V.flatMap_len lkC_len,List.length_take];omega
 rw[e,List.append_assoc,List.drop_left' hl]
theorem lk_take (l:List Lk)(k:Nat)(rest:List Value):(l.flatMap lkC++rest).drop 0=(l.take k).flatMap lkC++((l.drop k).flatMap lkC++rest):=by
 rw[List.drop_zero,← List.append_assoc,← List.flatMap_append,List.take_append_drop]
theorem own_cap {l:List Lk}{g c:Nat}{rest:List Value}(h:ownOk 5 l.length (l.flatMap lkC) (some (g,rest,c))):l.length≤c∧l.length*5+rest.length=c*5:=by
 have h2:(l.flatMap lkC).length+rest.length=c*5:=h.2
 rw[V.flatMap_len lkC_len] at h2
 omega
theorem mod_nat (a b:Nat):((a:Nat):Int).tmod (b:Nat)=((a%b:Nat):Int):=rfl
theorem rpush_c (fb:Nat)(r:Rng)(o:V.OwnO)(x:Lk)(hr:rgO r o)(hm:r.R.length≤50000)(w:World)(hs:Sat (rgS 277 fb r o) w):Calls Tryz.prog 428 [.pointer (some ⟨fb,0,none⟩),.agg (lkC x).toArray].toArray w fun e w'=>∃o2:V.OwnO,rgO (r.push x) o2∧e= .returned (.tuple #[])∧Hp ⟨w,V.ids ((rgS 277 fb r o))⟩ (rgS 277 fb (r.push x) o2) w':=by
 have hpo:=Rng.push_ok hr.1 (by omega) x
 obtain⟨⟨hr1,hr2,hr3,hr4⟩,ho⟩:=hr
 obtain⟨R,at_,n⟩:=r
 simp only at hr1 hr2 hr3 hr4 ho hm
 rcases o with _|⟨g,rest,cap⟩
 ·obtain rfl:R=[]:=List.length_eq_zero_iff.1 ho.2
  simp only[List.length_nil] at hr1 hr2
  obtain rfl:n=0:=by omega
  obtain rfl:at_=0:=by omega
  refine V.calls [[(fb,.cells (rgC ⟨[],0,0⟩ none).toArray 277 (0,0))],ownG 94 (([]:List Lk).flatMap lkC) none] Tryz.func428 rfl Tryz.ntmps428 (Nat.le_of_ble_eq_true rfl) hs<|Sq<|Rg<|Le XA fun b3 _=>Nl<|Ps<|Sq<|Sq<|Qt<|Qv Mv<|Qv Nz<|Qv (Fa 2 3)<|Qv (Ld (v:= .int .i64 0))<|Qv Mv<|Qv Nz<|Qv (Fa 0 225)<|Qv (Ld (v:= .slice none 0 0))<|Qv Ln<|Qv Cm<|QW.re 14 (.bool true) rfl (by rfl)<|Ql<|Ps<|Ct<|Sq<|Rg<|Lv Mv<|Lv Nz<|Lv (Fa 2 3)<|Lv (Ld (v:= .int .i64 0))<|Lv Ar<|Lv Ar<|LW.re 20 (.int .i64 ((1:Nat):Int)) rfl (by rfl)<|Le (Eff.makeCap (m:=1) (by_:=48) (zl:=lkC lk0) rfl rfl Tryz.underlying225 (by kernel_rfl) Tryz.sizeOf94 (by exact Tryz.zeroValue94) (by kernel_rfl) rfl (by omega) (by omega) (by omega)) fun b21 _=>Lv Av<|Nl<|Ps<|Sq<|Dr ([[(fb,.cells (rgC ⟨[],0,0⟩ none).toArray 277 (0,0))]])<|Rv 0 rfl Mv<|Rv 1 rfl Mv<|Rv 2 rfl Nz<|Rv 3 rfl (Fa 0 225)<|Rv 4 rfl (Ld (v:= .slice none 0 0))<|Rv 5 rfl Mv<|Rv 6 rfl Nz<|Rv 7 rfl (Fa 1 3)<|Rv 8 rfl (Ld (v:= .int .i64 0))<|Rv 9 rfl (Val.sliceG 0 0 0 rfl Tryz.underlying225 Tryz.sizeOf94 ⟨_,rfl⟩ rfl rfl (fun _=>rfl) (by omega) (by omega) (by omega))<|RW.re 31 (.slice none 0 0) rfl (by rfl)<|Re 10 rfl (Eff.appendAny (([]:List Value)) (sz:=5) (bytes:=48) (z:= .agg #[.string ⟨#[]⟩,.int .u64 0,.int .u64 0,.int .i64 0,.int .i64 0]) (xs:=[]) (m0:=0) (o:=some (b21,V.repL (lkC lk0) 1,1)) (m:=0) (pk:=[[(b21,.cells (V.repL (lkC lk0) 1).toArray 94 (0,0))]]) rfl rfl Tryz.underlying225 (by kernel_rfl) rfl (by omega) (by repeat(first|exact .nil|apply Pick.cons|exact .here|apply Ext.there)) (by rfl) ⟨rfl,by show _+(V.repL (lkC lk0) 1).length=_;rw[V.repL_length];simp[lkC_len]⟩ (by rfl) (fun hm0=>absurd hm0 (by omega)) (by rfl) (by omega) (by omega)) fun o1 ho1=>Rv 11 rfl Av<|Rd<|Ps<|Sq<|Dr ([[(fb,.cells (rgC ⟨[],0,0⟩ none).toArray 277 (0,0))]])<|Rv 0 rfl Mv<|Rv 1 rfl Mv<|Rv 2 rfl Nz<|Rv 3 rfl (Fa 0 225)<|Rv 4 rfl (Ld (v:= .slice none 0 0))<|Rv 5 rfl Mv<|Rv 6 rfl Nz<|Rv 7 rfl (Fa 1 3)<|Rv 8 rfl (Ld (v:= .int .i64 0))<|Rv 9 rfl (Val.sliceG 0 0 0 rfl Tryz.underlying225 Tryz.sizeOf94 rfl ⟨_,rfl⟩ rfl (fun _=>rfl) (by omega) (by omega) (by omega))<|RW.re 42 (.slice none 0 0) rfl (by rfl)<|Re 10 rfl (Eff.appendAny (([]:List Value)) (sz:=5) (bytes:=48) (z:= .agg #[.string ⟨#[]⟩,.int .u64 0,.int .u64 0,.int .i64 0,.int .i64 0]) (xs:=([]:List Value)++[]) (m0:=0+0) (o:=o1) (m:=0) (pk:=[ownG 94 (([]:List Value)++[]) o1]) rfl rfl Tryz.underlying225 (by kernel_rfl) rfl (by omega) (by repeat(first|exact .nil|apply Pick.cons|exact .here|apply Ext.there)) (by simp) ho1 (by rfl) (fun hm0=>absurd hm0 (by omega)) (by rfl) (by omega) (by omega)) ?_
  intro o2 ho2
  refine Rv 11 rfl Av<|Rd<|Ps<|Rg<|Lv Mv<|Lv Mv<|Lv Mv<|Lv Lw<|Le (Eff.buildSlice (rfl) [_,_,_,_,_] Tryz.underlying225 Tryz.sizeOf94 (by exact Tryz.zeroValue94) rfl rfl rfl rfl (by rfl)) fun b48 _=>Le (Eff.appendAny (lkC x) (sz:=5) (bytes:=48) (z:= .agg #[.string ⟨#[]⟩,.int .u64 0,.int .u64 0,.int .i64 0,.int .i64 0]) (xs:=([]++[])++[]) (m0:=0+0+0) (o:=o2) (m:=1) (pk:=[ownG 94 (([]++[])++[]) o2]) rfl rfl Tryz.underlying225 (by kernel_rfl) rfl (by omega) (by repeat(first|exact .nil|apply Pick.cons|exact .here|apply Ext.there)) (by simp) ho2 (by rfl) (fun hm0=>⟨b48,0,rfl,fun w hw=>V.range_of_block (o:=0) (cs:=lkC x) (r:=[]) (hw.at (b:=b48)) (by rfl)⟩) (by rfl) (by omega) (by omega)) fun o3 ho3=>Lv Nz<|Lv (Fa 0 225)<|LeN (StS (h1:=V.ownV_one _ _)) fun _ _=>Lv Nz<|Lv (Fa 1 3)<|LeN StS fun _ _=>Nl<|Ps<|Rg<|Lv Mv<|Lv Nz<|Lv (Fa 2 3)<|Lv (Ld (v:= .int .i64 0))<|Lv Ar<|Lv Nz<|Lv (Fa 2 3)<|LeN StS fun _ _=>Nl<|PQ.end0 rfl fun w' hw=>?_
  exact⟨o3,⟨hpo,by simpa[Rng.push] using ho3⟩,rfl,hw.pick (by repeat(first|exact .nil|apply Pick.cons|exact .here|apply Ext.there))⟩
 ·obtain⟨hc1,hc2⟩:=own_cap ho
  by_cases hn:n=R.length
  ·subst hn
   have ep:Rng.push ⟨R,at_,R.length⟩ x=⟨R.drop at_++R.take at_++[x],0,R.length+1⟩:=by unfold Rng.push;exact if_pos rfl
   rw[ep] at hpo⊢
   have hfl:(((([]:List Value)++(R.drop at_).flatMap lkC)++(R.take at_).flatMap lkC)++lkC x)=(R.drop at_++R.take at_++[x]).flatMap lkC:=by simp
   have hln:(R.drop at_++R.take at_++[x]).length=0+(R.length-at_)+at_+1:=by simp only[List.length_append,List.length_drop,List.length_take,List.length_cons,List.length_nil];omega
   refine V.calls [[(fb,.cells (rgC ⟨R,at_,R.length⟩ (some (g,rest,cap))).toArray 277 (0,0))],[(g,.cells (R.flatMap lkC++rest).toArray 94 (0,0))]] Tryz.func428 rfl Tryz.ntmps428 (Nat.le_of_ble_eq_true rfl) hs<|Sq<|Rg<|Le XA fun b3 _=>Nl<|Ps<|Sq<|Sq<|Qt<|Qv Mv<|Qv Nz<|Qv (Fa 2 3)<|Qv (Ld (v:= .int .i64 (R.length:Nat)))<|Qv Mv<|Qv Nz<|Qv (Fa 0 225)<|Qv (Ld (v:= .slice (some ⟨g,0,none⟩) R.length cap))<|Qv Ln<|Qv Cm<|QW.re 14 (.bool true) rfl (by simp)<|Ql<|Ps<|Ct<|Sq<|Rg<|Lv Mv<|Lv Nz<|Lv (Fa 2 3)<|Lv (Ld (v:= .int .i64 (R.length:Nat)))<|Lv Ar<|Lv Ar<|LW.re 20 (.int .i64 ((2*R.length+1:Nat):Int)) rfl (by congr 1)<|Le (Eff.makeCap (m:=2*R.length+1) (by_:=48) (zl:=lkC lk0) rfl rfl Tryz.underlying225 (by kernel_rfl) Tryz.sizeOf94 (by exact Tryz.zeroValue94) (by kernel_rfl) rfl (by omega) (by omega) (by omega)) fun b21 _=>Lv Av<|Nl<|Ps<|Sq<|Dr ([[(fb,.cells (rgC ⟨R,at_,R.length⟩ (some (g,rest,cap))).toArray 277 (0,0))]])<|Rv 0 rfl Mv<|Rv 1 rfl Mv<|Rv 2 rfl Nz<|Rv 3 rfl (Fa 0 225)<|Rv 4 rfl (Ld (v:= .slice (some ⟨g,0,none⟩) R.length cap))<|Rv 5 rfl Mv<|Rv 6 rfl Nz<|Rv 7 rfl (Fa 1 3)<|Rv 8 rfl (Ld (v:= .int .i64 (at_:Nat)))<|Rv 9 rfl (Val.slice (at_) (R.length) cap rfl Tryz.underlying225 Tryz.sizeOf94 ⟨_,rfl⟩ rfl rfl (fun _=>rfl) (by omega) (by omega) (by omega))<|Re 10 rfl (Eff.appendAny ((R.drop at_).flatMap lkC) (sz:=5) (bytes:=48) (z:= .agg #[.string ⟨#[]⟩,.int .u64 0,.int .u64 0,.int .i64 0,.int .i64 0]) (xs:=[]) (m0:=0) (o:=some (b21,V.repL (lkC lk0) (2*R.length+1),2*R.length+1)) (m:=R.length-at_) (pk:=[[(b21,.cells (V.repL (lkC lk0) (2*R.length+1)).toArray 94 (0,0))]]) rfl rfl Tryz.underlying225 (by kernel_rfl) rfl (by omega) (by repeat(first|exact .nil|apply Pick.cons|exact .here|apply Ext.there)) (by rfl) ⟨rfl,by show _+(V.repL (lkC lk0) (2*R.length+1)).length=_;rw[V.repL_length];simp[lkC_len]⟩ (by rw[V.flatMap_len lkC_len,List.length_drop]) (fun hm0=>⟨g,at_*5,by rw[if_neg (by omega),Nat.zero_add],fun w hw=>V.range_of_block (o:=at_*5) (r:=rest) (hw.at (b:=g)) (lk_drop R at_ rest hr2)⟩) (all_one lkC_one _) (by omega) (by omega)) ?_
   intro o1 ho1
   refine Rv 11 rfl Av<|Rd<|Ps<|Sq<|Dr ([[(fb,.cells (rgC ⟨R,at_,R.length⟩ (some (g,rest,cap))).toArray 277 (0,0))]])<|Rv 0 rfl Mv<|Rv 1 rfl Mv<|Rv 2 rfl Nz<|Rv 3 rfl (Fa 0 225)<|Rv 4 rfl (Ld (v:= .slice (some ⟨g,0,none⟩) R.length cap))<|Rv 5 rfl Mv<|Rv 6 rfl Nz<|Rv 7 rfl (Fa 1 3)<|Rv 8 rfl (Ld (v:= .int .i64 (at_:Nat)))<|Rv 9 rfl (Val.slice (0) (at_) cap rfl Tryz.underlying225 Tryz.sizeOf94 rfl ⟨_,rfl⟩ rfl (fun _=>rfl) (by omega) (by omega) (by omega))<|RW.re 42 (.slice (some ⟨g,0,none⟩) at_ cap) rfl (by simp)<|Re 10 rfl (Eff.appendAny ((R.take at_).flatMap lkC) (sz:=5) (bytes:=48) (z:= .agg #[.string ⟨#[]⟩,.int .u64 0,.int .u64 0,.int .i64 0,.int .i64 0]) (xs:=([]:List Value)++(R.drop at_).flatMap lkC) (m0:=0+(R.length-at_)) (o:=o1) (m:=at_) (pk:=[ownG 94 (([]:List Value)++(R.drop at_).flatMap lkC) o1]) rfl rfl Tryz.underlying225 (by kernel_rfl) rfl (by omega) (by repeat(first|exact .nil|apply Pick.cons|exact .here|apply Ext.there)) (by simp) ho1 (by rw[V.flatMap_len lkC_len,List.length_take];omega) (fun hm0=>⟨g,0,rfl,fun w hw=>V.range_of_block (o:=0) (hw.at (b:=g)) (lk_take R at_ rest)⟩) (all_one lkC_one _) (by omega) (by omega)) fun o2 ho2=>Rv 11 rfl Av<|Rd<|Ps<|Rg<|Lv Mv<|Lv Mv<|Lv Mv<|Lv Lw<|Le (Eff.buildSlice (rfl) [_,_,_,_,_] Tryz.underlying225 Tryz.sizeOf94 (by exact Tryz.zeroValue94) rfl rfl rfl rfl (by rfl)) fun b48 _=>Le (Eff.appendAny (lkC x) (sz:=5) (bytes:=48) (z:= .agg #[.string ⟨#[]⟩,.int .u64 0,.int .u64 0,.int .i64 0,.int .i64 0]) (xs:=([]++(R.drop at_).flatMap lkC)++(R.take at_).flatMap lkC) (m0:=0+(R.length-at_)+at_) (o:=o2) (m:=1) (pk:=[ownG 94 (([]++(R.drop at_).flatMap lkC)++(R.take at_).flatMap lkC) o2]) rfl rfl Tryz.underlying225 (by kernel_rfl) rfl (by omega) (by repeat(first|exact .nil|apply Pick.cons|exact .here|apply Ext.there)) (by simp) ho2 (by rfl) (fun hm0=>⟨b48,0,rfl,fun w hw=>V.range_of_block (o:=0) (cs:=lkC x) (r:=[]) (hw.at (b:=b48)) (by rfl)⟩) (by rfl) (by omega) (by omega)) ?_
   intro o3 ho3
   rw[hfl] at ho3⊢
   rw[← hln] at ho3
   refine LW.re 49 (ownV (R.drop at_++R.take at_++[x]).length o3) rfl (by rw[hln])<|Lv Nz<|Lv (Fa 0 225)<|LeN (StS (h1:=V.ownV_one _ _)) fun _ _=>Lv Nz<|Lv (Fa 1 3)<|LeN StS fun _ _=>Nl<|Ps<|Rg<|Lv Mv<|Lv Nz<|Lv (Fa 2 3)<|Lv (Ld (v:= .int .i64 (R.length:Nat)))<|Lv Ar<|Lv Nz<|Lv (Fa 2 3)<|LeN StS fun _ _=>Nl<|PQ.end0 rfl fun w' hw=>?_
   exact⟨o3,⟨hpo,ho3⟩,rfl,hw.pick (by repeat(first|exact .nil|apply Pick.cons|exact .here|apply Ext.there))⟩
  ·have ep:Rng.push ⟨R,at_,n⟩ x=⟨R.set (Rng.ix ⟨R,at_,n⟩ n) x,at_,n+1⟩:=by unfold Rng.push;exact if_neg hn
   rw[ep] at hpo⊢
   obtain⟨hix,hixl⟩:=ix_mod (r:=⟨R,at_,n⟩) ⟨hr1,hr2,hr3,hr4⟩ (i:=n) (by simp only;omega) (by simp only;omega)
   simp only at hix hixl
   obtain⟨y,hy⟩:∃y,R[Rng.ix ⟨R,at_,n⟩ n]? =some y:=⟨R[Rng.ix ⟨R,at_,n⟩ n],by simp⟩
   refine V.calls [[(fb,.cells (rgC ⟨R,at_,n⟩ (some (g,rest,cap))).toArray 277 (0,0))],[(g,.cells (R.flatMap lkC++rest).toArray 94 (0,0))]] Tryz.func428 rfl Tryz.ntmps428 (Nat.le_of_ble_eq_true rfl) hs<|Sq<|Rg<|Le XA fun b3 _=>Nl<|Ps<|Sq<|Sq<|Qt<|Qv Mv<|Qv Nz<|Qv (Fa 2 3)<|Qv (Ld (v:= .int .i64 (n:Nat)))<|Qv Mv<|Qv Nz<|Qv (Fa 0 225)<|Qv (Ld (v:= .slice (some ⟨g,0,none⟩) R.length cap))<|Qv Ln<|Qv Cm<|QW.re 14 (.bool false) rfl (by congr 1;simp;omega)<|Ql<|Ps<|Cf<|Dr ([[(fb,.cells (rgC ⟨R,at_,n⟩ (some (g,rest,cap))).toArray 277 (0,0))],[(b3,.cells (lkC x).toArray 94 (0,0))]])<|Rv 0 rfl Mv<|Rv 1 rfl Nz<|Rv 2 rfl (Fa 0 225)<|Rv 3 rfl (Ld (v:= .slice (some ⟨g,0,none⟩) R.length cap))<|Rv 4 rfl Mv<|Rv 5 rfl Nz<|Rv 6 rfl (Fa 1 3)<|Rv 7 rfl (Ld (v:= .int .i64 (at_:Nat)))<|Rv 8 rfl Mv<|Rv 9 rfl Nz<|Rv 10 rfl (Fa 2 3)<|Rv 11 rfl (Ld (v:= .int .i64 (n:Nat)))<|Rv 12 rfl Ar<|RW.re 66 (.int .i64 ((at_+n:Nat):Int)) rfl (by congr 1)<|Rv 13 rfl Mv<|Rv 14 rfl Nz<|Rv 15 rfl (Fa 0 225)<|Rv 16 rfl (Ld (v:= .slice (some ⟨g,0,none⟩) R.length cap))<|Rv 17 rfl Ln<|Rv 18 rfl (Val.rem rfl rfl (by omega))<|RW.re 72 (.int .i64 ((Rng.ix ⟨R,at_,n⟩ n):Nat)) rfl (by rw[mod_nat,hix])<|Rv 19 rfl Lw<|Rv 20 rfl (Val.indexAddrN (i:=(Rng.ix ⟨R,at_,n⟩ n)) rfl rfl Tryz.underlying225 Tryz.sizeOf94 hixl)<|ReN 21 rfl (Eff.storeA (cs:=lkC x) (l:=R.flatMap lkC++rest) (l':=(R.set (Rng.ix ⟨R,at_,n⟩ n) x).flatMap lkC++rest) rfl rfl (by repeat(first|exact .here|exact .inner .here|exact .inner (.inner .here)|apply Upd.there)) (by have h8:=splice_in lkC_len hy 0 (lkC x) (y:=x) (by rfl) (by simp[lkC_len]) rest;simpa using h8) (by rw[List.length_append,V.flatMap_len lkC_len];have:=Nat.mul_le_mul_right 5 (show(Rng.ix ⟨R,at_,n⟩ n)+1≤R.length from hixl);simp[lkC];omega) Tryz.sizeOf94 (by rfl)) ?_
   intro _ _
   refine Rd<|Ps<|Rg<|Lv Mv<|Lv Nz<|Lv (Fa 2 3)<|Lv (Ld (v:= .int .i64 (n:Nat)))<|Lv Ar<|Lv Nz<|Lv (Fa 2 3)<|LeN StS fun _ _=>Nl<|PQ.end0 rfl fun w' hw=>?_
   exact⟨some (g,rest,cap),⟨hpo,by rw[List.length_set];exact⟨by rw[V.flatMap_len lkC_len,List.length_set],by rw[V.flatMap_len lkC_len,List.length_set];exact hc2⟩⟩,rfl,by unfold rgS rgC;rw[List.length_set];exact hw.pick (by repeat(first|exact .nil|apply Pick.cons|exact .here|apply Ext.there))⟩
instance:Cal Tryz.prog 412:=⟨Tryz.call412⟩
def frontV (q:List Lk):Value:= .tuple #[.agg (lkC (q.head?.getD lk0)).toArray,.bool q.head?.isSome]
theorem rg_none {r:Rng}(h:rgO r none):r.R=[]∧r.n=0∧r.at_=0:=by
 have h1:r.R=[]:=List.length_eq_zero_iff.1 h.2.2
 have h2:=h.1.1
 have h3:=h.1.2.1
 rw[h1] at h2 h3
 simp only[List.length_nil] at h2 h3
 exact⟨h1,by omega,by omega⟩
theorem head_n0 {r:Rng}(h:r.n=0):rgQ r=[]:=List.length_eq_zero_iff.1 (by rw[rgQ_len];exact h)
theorem flk_at {R:List Lk}{rest:List Value}{i:Nat}{y:Lk}(h:R[i]? =some y):∃r,(R.flatMap lkC++rest).drop (0+i*5)=lkC y++r:=by
 obtain⟨r2,h2⟩:=V.drop_flatMap lkC_len R i y h
 have hi:=(List.getElem?_eq_some_iff.1 h).1
 refine⟨r2++rest,?_⟩
 rw[Nat.zero_add,List.drop_append_of_le_length (by rw[V.flatMap_len lkC_len];omega),h2,List.append_assoc]
theorem rhead_c (fb:Nat)(r:Rng)(o:V.OwnO)(hr:rgO r o)(w:World)(hs:Sat (rgS 277 fb r o) w):Calls Tryz.prog 412 [.pointer (some ⟨fb,0,none⟩)].toArray w fun e w'=>e= .returned (frontV (rgQ r))∧Below w.heap.size w w':=by
 obtain⟨R,at_,n⟩:=r
 have hok:=hr.1
 rcases o with _|⟨g,rest,cap⟩
 ·obtain⟨h1,h2,h3⟩:=rg_none hr
  simp only at h1 h2 h3
  subst h1;subst h2;subst h3
  refine V.calls [[(fb,.cells (rgC ⟨[],0,0⟩ none).toArray 277 (0,0))],ownG 94 (([]:List Lk).flatMap lkC) none] Tryz.func412 rfl Tryz.ntmps412 (Nat.le_of_ble_eq_true rfl) hs<|Sq<|Rg<|Le AA fun b2 _=>Lv Av<|Nl<|Ps<|Sq<|Sq<|Rg<|Lv Mv<|Lv Nz<|Lv (Fa 2 3)<|Lv (Ld (v:= .int .i64 0))<|Lv Cm<|LW.re 8 (.bool true) rfl (by rfl)<|Nl<|Ps<|Ct<|Sq<|Rg<|Lv Lw<|LeN StW fun _ _=>Lv Av<|Nl<|Ps<|Rt<|Tr<|PQ.retCT (l:=lkC lk0) rfl rfl rfl (by repeat(first|exact .here|exact .inner .here|exact .inner (.inner .here)|refine .there ?_)) Tryz.isAgg94 (by exact Tryz.sizeOf94) ?_
  rw[head_n0 (r:=⟨[],0,0⟩) rfl]
  intro w' hw;exact⟨rfl,hw.ro (by repeat(first|exact .nil|apply Pick.cons|exact .here|apply Ext.there)) hs⟩
 ·obtain⟨hc1,hc2⟩:=own_cap hr.2
  by_cases hn:n=0
  ·subst hn
   refine V.calls [[(fb,.cells (rgC ⟨R,at_,0⟩ (some (g,rest,cap))).toArray 277 (0,0))],[(g,.cells (R.flatMap lkC++rest).toArray 94 (0,0))]] Tryz.func412 rfl Tryz.ntmps412 (Nat.le_of_ble_eq_true rfl) hs<|Sq<|Rg<|Le AA fun b2 _=>Lv Av<|Nl<|Ps<|Sq<|Sq<|Rg<|Lv Mv<|Lv Nz<|Lv (Fa 2 3)<|Lv (Ld (v:= .int .i64 0))<|Lv Cm<|LW.re 8 (.bool true) rfl (by rfl)<|Nl<|Ps<|Ct<|Sq<|Rg<|Lv Lw<|LeN StW fun _ _=>Lv Av<|Nl<|Ps<|Rt<|Tr<|PQ.retCT (l:=lkC lk0) rfl rfl rfl (by repeat(first|exact .here|exact .inner .here|exact .inner (.inner .here)|refine .there ?_)) Tryz.isAgg94 (by exact Tryz.sizeOf94) ?_
   rw[head_n0 (r:=⟨R,at_,0⟩) rfl]
   intro w' hw;exact⟨rfl,hw.ro (by repeat(first|exact .nil|apply Pick.cons|exact .here|apply Ext.there)) hs⟩
  ·have hat:at_<R.length:=hok.2.2.1 (by have:=hok.1;simp only at this;show 0<R.length;omega)
   have hq:=Rng.head_Q hok (by show 0<n;omega)
   obtain⟨y,hy⟩:∃y,R[at_]? =some y:=⟨R[at_],by simp⟩
   obtain⟨r2,hr2⟩:=flk_at (rest:=rest) hy
   have hhv:frontV (rgQ ⟨R,at_,n⟩)= .tuple #[.agg (lkC y).toArray,.bool true]:=by unfold frontV;rw[hq,hy];rfl
   rw[hhv]
   refine V.calls [[(fb,.cells (rgC ⟨R,at_,n⟩ (some (g,rest,cap))).toArray 277 (0,0))],[(g,.cells (R.flatMap lkC++rest).toArray 94 (0,0))]] Tryz.func412 rfl Tryz.ntmps412 (Nat.le_of_ble_eq_true rfl) hs<|Sq<|Rg<|Le AA fun b2 _=>Lv Av<|Nl<|Ps<|Sq<|Sq<|Rg<|Lv Mv<|Lv Nz<|Lv (Fa 2 3)<|Lv (Ld (v:= .int .i64 (n:Nat)))<|Lv Cm<|LW.re 8 (.bool false) rfl (by congr 1;simp;omega)<|Nl<|Ps<|Cf<|Sk<|Ps<|Sq<|Dr ([[(fb,.cells (rgC ⟨R,at_,n⟩ (some (g,rest,cap))).toArray 277 (0,0))],[(g,.cells (R.flatMap lkC++rest).toArray 94 (0,0))]])<|Rv 0 rfl Mv<|Rv 1 rfl Nz<|Rv 2 rfl (Fa 0 225)<|Rv 3 rfl (Ld (v:= .slice (some ⟨g,0,none⟩) R.length cap))<|Rv 4 rfl Mv<|Rv 5 rfl Nz<|Rv 6 rfl (Fa 1 3)<|Rv 7 rfl (Ld (v:= .int .i64 (at_:Nat)))<|Rv 8 rfl (Val.indexAddrN (i:=at_) rfl rfl Tryz.underlying225 Tryz.sizeOf94 hat)<|Rv 9 rfl (La (lkC y) (hl:=hr2))<|ReN 10 rfl StW fun _ _=>Rv 11 rfl Av<|Rd<|Ps<|Rt<|PQ.retCT (l:=lkC y) rfl rfl rfl (by repeat(first|exact .here|exact .inner .here|exact .inner (.inner .here)|refine .there ?_)) Tryz.isAgg94 (by exact Tryz.sizeOf94) ?_
   intro w' hw;exact⟨rfl,hw.ro (by repeat(first|exact .nil|apply Pick.cons|exact .here|apply Ext.there)) hs⟩
theorem rpop_c (fb:Nat)(r:Rng)(o:V.OwnO)(hr:rgO r o)(w:World)(hs:Sat (rgS 277 fb r o) w):Calls Tryz.prog 463 [.pointer (some ⟨fb,0,none⟩)].toArray w fun e w'=>∃o2:V.OwnO,rgO r.pop o2∧e= .returned (frontV (rgQ r))∧Hp ⟨w,V.ids ((rgS 277 fb r o))⟩ (rgS 277 fb r.pop o2) w':=by
 have hpo:=Rng.pop_ok hr.1
 by_cases hn:r.n=0
 ·have ep:r.pop=r:=by unfold Rng.pop;rw[if_pos hn]
  have eq:frontV (rgQ r)= .tuple #[.agg (lkC lk0).toArray,.bool false]:=by rw[head_n0 hn];rfl
  rw[ep]
  refine V.calls (rgS 277 fb r o) Tryz.func463 rfl Tryz.ntmps463 (Nat.le_of_ble_eq_true rfl) hs<|Sq<|Rg<|Le AA fun b2 _=>Lv Av<|Nl<|Ps<|Sq<|Rg<|Lv Mv<|Le (CV fun w hw=>rhead_c fb r o hr w hw.pk.sat) fun _ _=>LW.re 9 (.tuple #[.agg (lkC lk0).toArray,.bool false]) rfl eq<|Lv Mv<|Lv Ex<|Lv Ex<|Le AA fun b4 _=>LeN (StW (cs:=lkC lk0)) fun _ _=>Lv Av<|Nl<|Ps<|Sq<|Sq<|Rg<|Lv Mv<|Nl<|Ps<|Cf<|Sk<|Ps<|Sq<|Rg<|Lv Lw<|Lv Mv<|LeN (StW (cs:=lkC lk0)) fun _ _=>Lv Av<|Nl<|Ps<|Rt<|PQ.retCT (l:=lkC lk0) rfl rfl rfl (by repeat(first|exact .here|exact .inner .here|exact .inner (.inner .here)|refine .there ?_)) Tryz.isAgg94 (by exact Tryz.sizeOf94) ?_
  rw[eq]
  intro w' hw;exact⟨o,hr,rfl,hw.pick (by repeat(first|exact .nil|apply Pick.cons|exact .here|apply Ext.there))⟩
 ·obtain⟨R,at_,n⟩:=r
  simp only at hn
  have hok:=hr.1
  rcases o with _|⟨g,rest,cap⟩
  ·exact absurd (rg_none hr).2.1 hn
  obtain⟨hc1,hc2⟩:=own_cap hr.2
  have hat:at_<R.length:=hok.2.2.1 (by have:=hok.1;simp only at this;show 0<R.length;omega)
  have hrl:R.length≤100000:=hok.2.2.2
  have hnl:n≤R.length:=hok.1
  have hq:=Rng.head_Q hok (by show 0<n;omega)
  obtain⟨y,hy⟩:∃y,R[at_]? =some y:=⟨R[at_],by simp⟩
  have eq:frontV (rgQ ⟨R,at_,n⟩)= .tuple #[.agg (lkC y).toArray,.bool true]:=by unfold frontV;rw[hq,hy];rfl
  have ep:Rng.pop ⟨R,at_,n⟩=⟨R.set at_ lk0,Rng.ix ⟨R,at_,n⟩ 1,n-1⟩:=by unfold Rng.pop;exact if_neg hn
  obtain⟨hix,hixl⟩:=ix_mod (r:=⟨R,at_,n⟩) hok (i:=1) (by show 1≤R.length;omega) (by show 0<R.length;omega)
  simp only at hix hixl
  rw[ep] at hpo⊢
  refine V.calls [[(fb,.cells (rgC ⟨R,at_,n⟩ (some (g,rest,cap))).toArray 277 (0,0))],[(g,.cells (R.flatMap lkC++rest).toArray 94 (0,0))]] Tryz.func463 rfl Tryz.ntmps463 (Nat.le_of_ble_eq_true rfl) hs<|Sq<|Rg<|Le AA fun b2 _=>Lv Av<|Nl<|Ps<|Sq<|Rg<|Lv Mv<|Le (CV fun w hw=>rhead_c fb ⟨R,at_,n⟩ (some (g,rest,cap)) hr w hw.pk.sat) fun _ _=>LW.re 9 (.tuple #[.agg (lkC y).toArray,.bool true]) rfl eq<|Lv Mv<|Lv Ex<|Lv Ex<|Le AA fun b4 _=>LeN (StW (cs:=lkC y)) fun _ _=>Lv Av<|Nl<|Ps<|Sq<|Sq<|Rg<|Lv Mv<|Nl<|Ps<|Ct<|Sq<|Rg<|Le AA fun b6 _=>Nl<|Ps<|Sq<|Dr ([[(fb,.cells (rgC ⟨R,at_,n⟩ (some (g,rest,cap))).toArray 277 (0,0))],[(b6,.cells (lkC lk0).toArray 94 (0,0))]])<|Rv 0 rfl Mv<|Rv 1 rfl Nz<|Rv 2 rfl (Fa 0 225)<|Rv 3 rfl (Ld (v:= .slice (some ⟨g,0,none⟩) R.length cap))<|Rv 4 rfl Mv<|Rv 5 rfl Nz<|Rv 6 rfl (Fa 1 3)<|Rv 7 rfl (Ld (v:= .int .i64 (at_:Nat)))<|Rv 8 rfl (Lw (l:=lkC lk0))<|Rv 9 rfl (Val.indexAddrN (i:=at_) rfl rfl Tryz.underlying225 Tryz.sizeOf94 hat)<|ReN 10 rfl (Eff.storeA (cs:=lkC lk0) (l:=R.flatMap lkC++rest) (l':=(R.set at_ lk0).flatMap lkC++rest) rfl rfl (by repeat(first|exact .here|exact .inner .here|exact .inner (.inner .here)|apply Upd.there)) (by have h8:=splice_in lkC_len hy 0 (lkC lk0) (y:=lk0) (by rfl) (by simp[lkC_len]) rest;simpa using h8) (by rw[List.length_append,V.flatMap_len lkC_len];have:=Nat.mul_le_mul_right 5 (show at_+1≤R.length from hat);simp[lkC];omega) Tryz.sizeOf94 (by rfl)) fun _ _=>Rd<|Ps<|Sq<|Dr ([[(g,.cells ((R.set at_ lk0).flatMap lkC++rest).toArray 94 (0,0))]])<|Rv 0 rfl Mv<|Rv 1 rfl Mv<|Rv 2 rfl Nz<|Rv 3 rfl (Fa 1 3)<|Rv 6 rfl Mv<|Rv 7 rfl Nz<|Rv 8 rfl (Fa 0 225)<|RW.any [4,9] (by kernel_rfl) (by simp) fun i hi=>?_
  simp only[List.mem_cons,List.not_mem_nil,or_false] at hi
  rcases hi with rfl|rfl
  ·refine Ro rfl (Eff.ofVal (Ld (v:= .int .i64 (at_:Nat)))) fun _ _=>Rv 5 rfl Ar<|RW.re 28 (.int .i64 ((at_+1:Nat):Int)) rfl (by congr 1)<|Re 9 rfl (Eff.ofVal (Ld (v:= .slice (some ⟨g,0,none⟩) R.length cap))) fun _ _=>Rv 10 rfl Ln<|Rv 11 rfl (Val.rem rfl rfl (by omega))<|RW.re 34 (.int .i64 ((Rng.ix ⟨R,at_,n⟩ 1:Nat):Int)) rfl (by rw[mod_nat,hix])<|Rv 12 rfl Nz<|Rv 13 rfl (Fa 1 3)<|ReN 14 rfl StS fun _ _=>Rd<|Ps<|Rg<|Lv Mv<|Lv Nz<|Lv (Fa 2 3)<|Lv (Ld (v:= .int .i64 (n:Nat)))<|Lv Ar<|LW.re 41 (.int .i64 ((n-1:Nat):Int)) rfl (by congr 1;omega)<|Lv Nz<|Lv (Fa 2 3)<|LeN StS fun _ _=>Nl<|Ps<|Sq<|Rg<|Lv Lw<|Lv Mv<|LeN (StW (cs:=lkC y)) fun _ _=>Lv Av<|Nl<|Ps<|Rt<|PQ.retCT (l:=lkC y) rfl rfl rfl (by repeat(first|exact .here|exact .inner .here|exact .inner (.inner .here)|refine .there ?_)) Tryz.isAgg94 (by exact Tryz.sizeOf94) ?_
   rw[eq]
   intro w' hw
   exact⟨some (g,rest,cap),⟨hpo,by rw[List.length_set];exact⟨by rw[V.flatMap_len lkC_len,List.length_set],by rw[V.flatMap_len lkC_len,List.length_set];exact hc2⟩⟩,rfl,by unfold rgS rgC;rw[List.length_set];exact hw.pick (by repeat(first|exact .nil|apply Pick.cons|exact .here|apply Ext.there))⟩
  ·refine Ro rfl (Eff.ofVal (Ld (v:= .slice (some ⟨g,0,none⟩) R.length cap))) fun _ _=>Rv 10 rfl Ln<|Re 4 rfl (Eff.ofVal (Ld (v:= .int .i64 (at_:Nat)))) fun _ _=>Rv 5 rfl Ar<|RW.re 28 (.int .i64 ((at_+1:Nat):Int)) rfl (by congr 1)<|Rv 11 rfl (Val.rem rfl rfl (by omega))<|RW.re 34 (.int .i64 ((Rng.ix ⟨R,at_,n⟩ 1:Nat):Int)) rfl (by rw[mod_nat,hix])<|Rv 12 rfl Nz<|Rv 13 rfl (Fa 1 3)<|ReN 14 rfl StS fun _ _=>Rd<|Ps<|Rg<|Lv Mv<|Lv Nz<|Lv (Fa 2 3)<|Lv (Ld (v:= .int .i64 (n:Nat)))<|Lv Ar<|LW.re 41 (.int .i64 ((n-1:Nat):Int)) rfl (by congr 1;omega)<|Lv Nz<|Lv (Fa 2 3)<|LeN StS fun _ _=>Nl<|Ps<|Sq<|Rg<|Lv Lw<|Lv Mv<|LeN (StW (cs:=lkC y)) fun _ _=>Lv Av<|Nl<|Ps<|Rt<|PQ.retCT (l:=lkC y) rfl rfl rfl (by repeat(first|exact .here|exact .inner .here|exact .inner (.inner .here)|refine .there ?_)) Tryz.isAgg94 (by exact Tryz.sizeOf94) ?_
   rw[eq]
   intro w' hw
   exact⟨some (g,rest,cap),⟨hpo,by rw[List.length_set];exact⟨by rw[V.flatMap_len lkC_len,List.length_set],by rw[V.flatMap_len lkC_len,List.length_set];exact hc2⟩⟩,rfl,by unfold rgS rgC;rw[List.length_set];exact hw.pick (by repeat(first|exact .nil|apply Pick.cons|exact .here|apply Ext.there))⟩
instance:Cal Tryz.prog 185:=⟨Tryz.call185⟩
instance:Cal Tryz.prog 428:=⟨Tryz.call428⟩
instance:Cal Tryz.prog 463:=⟨Tryz.call463⟩
theorem rall_c (fb:Nat)(r:Rng)(o:V.OwnO)(hr:rgO r o)(w:World)(hs:Sat (rgS 277 fb r o) w):Calls Tryz.prog 185 [.pointer (some ⟨fb,0,none⟩)].toArray w fun e w'=>∃y:V.OwnO,ownOk 5 (rgQ r).length ((rgQ r).flatMap lkC) y∧e= .returned (ownV (rgQ r).length y)∧Hp ⟨w,V.ids ((rgS 277 fb r o))⟩ (ownG 94 ((rgQ r).flatMap lkC) y::rgS 277 fb r o) w':=by
 obtain⟨R,at_,n⟩:=r
 have hok:=hr.1
 rcases o with _|⟨g,rest,cap⟩
 ·obtain⟨h1,h2,h3⟩:=rg_none hr
  simp only at h1 h2 h3
  subst h1;subst h2;subst h3
  rw[head_n0 (r:=⟨[],0,0⟩) rfl]
  refine V.calls [[(fb,.cells (rgC ⟨[],0,0⟩ none).toArray 277 (0,0))],ownG 94 (([]:List Lk).flatMap lkC) none] Tryz.func185 rfl Tryz.ntmps185 (Nat.le_of_ble_eq_true rfl) hs<|Sq<|Rg<|Lv Av<|Nl<|Ps<|Sq<|Rg<|Lv Av<|Nl<|Ps<|Sq<|Sq<|Rg<|Lv Mv<|Lv Nz<|Lv (Fa 2 3)<|Lv (Ld (v:= .int .i64 0))<|Lv Mv<|Nl<|Ps<|Bk<|CW.loopU 0<|Sq<|Rg<|Lv Cm<|LW.re 10 (.bool false) rfl (by rfl)<|Nl<|Ps<|Sq<|Cf<|Xt<|Te<|Te<|Bh<|Ps<|Sq<|Rg<|Lv Mv<|Lv Av<|Nl<|Ps<|Rt<|Rt1 ?_
  intro w' hw;exact⟨none,⟨rfl,rfl⟩,rfl,hw.perm (.refl _)⟩
 ·obtain⟨hc1,hc2⟩:=own_cap hr.2
  have hrl:R.length≤100000:=hok.2.2.2
  have hnl:n≤R.length:=hok.1
  have hal:at_≤R.length:=hok.2.1
  have hql:(rgQ ⟨R,at_,n⟩).length=n:=rgQ_len _
  have htk:∀j,j≤n→((rgQ ⟨R,at_,n⟩).take j).length=j:=fun j hj=>by rw[List.length_take];omega
  refine V.calls [[(fb,.cells (rgC ⟨R,at_,n⟩ (some (g,rest,cap))).toArray 277 (0,0))],[(g,.cells (R.flatMap lkC++rest).toArray 94 (0,0))]] Tryz.func185 rfl Tryz.ntmps185 (Nat.le_of_ble_eq_true rfl) hs<|Sq<|Rg<|Lv Av<|Nl<|Ps<|Sq<|Rg<|Lv Av<|Nl<|Ps<|Sq<|Sq<|Rg<|Lv Mv<|Lv Nz<|Lv (Fa 2 3)<|Lv (Ld (v:= .int .i64 (n:Nat)))<|Lv Mv<|Nl<|Ps<|Bk ?_
  refine V.CW.perm (sg':=[ownG 94 (((rgQ ⟨R,at_,n⟩).take 0).flatMap lkC) none,[(fb,.cells (rgC ⟨R,at_,n⟩ (some (g,rest,cap))).toArray 277 (0,0))],[(g,.cells (R.flatMap lkC++rest).toArray 94 (0,0))]]) ?_ (.refl _)
  refine loopA (γ:=Nat×V.OwnO) (fun k=>[(0,.pointer (some ⟨fb,0,none⟩)),(3,ownV k.1 k.2),(8,.int .i64 (n:Nat)),(9,.int .i64 (k.1:Nat))]) (fun k=>[ownG 94 (((rgQ ⟨R,at_,n⟩).take k.1).flatMap lkC) k.2,[(fb,.cells (rgC ⟨R,at_,n⟩ (some (g,rest,cap))).toArray 277 (0,0))],[(g,.cells (R.flatMap lkC++rest).toArray 94 (0,0))]]) (fun k=>k.1≤n∧ownOk 5 k.1 (((rgQ ⟨R,at_,n⟩).take k.1).flatMap lkC) k.2) (fun k=>n-k.1) ((0,none)) ⟨Nat.zero_le _,⟨rfl,rfl⟩⟩ fun k=>?_
  rintro⟨hk1,hk2⟩
  refine Sq<|Rg<|Lv Cm<|Nl<|Ps<|Sq ?_
  refine CW.cond rfl (fun h10=>?_) (fun h10=>?_)
  ·replace h10:=bT h10
   have hk3:k.1<n:=by omega
   obtain⟨hix,hixl⟩:=ix_mod (r:=⟨R,at_,n⟩) hok (i:=k.1) (by show k.1≤R.length;omega) (by show 0<R.length;omega)
   simp only at hix hixl
   obtain⟨y,hy⟩:∃y,R[Rng.ix ⟨R,at_,n⟩ k.1]? =some y:=⟨R[Rng.ix ⟨R,at_,n⟩ k.1],by simp⟩
   obtain⟨r2,hr2⟩:=flk_at (rest:=rest) hy
   have hqk:(rgQ ⟨R,at_,n⟩)[k.1]? =some y:=by rw[rgQ_get,if_pos hk3,hy];rfl
   have hts:(rgQ ⟨R,at_,n⟩).take (k.1+1)=((rgQ ⟨R,at_,n⟩).take k.1)++[y]:=by rw[List.take_add_one,hqk];rfl
   refine Sk<|Ps<|Sq<|Bk<|Sq<|Rg<|Lv Mv<|Lv Av<|Nl<|Ps<|Dr ([[(fb,.cells (rgC ⟨R,at_,n⟩ (some (g,rest,cap))).toArray 277 (0,0))],[(g,.cells (R.flatMap lkC++rest).toArray 94 (0,0))]])<|Rv 0 rfl Mv<|Rv 1 rfl Mv<|Rv 2 rfl Nz<|Rv 3 rfl (Fa 0 225)<|Rv 4 rfl (Ld (v:= .slice (some ⟨g,0,none⟩) R.length cap))<|Rv 5 rfl Mv<|Rv 6 rfl Nz<|Rv 7 rfl (Fa 1 3)<|Rv 8 rfl (Ld (v:= .int .i64 (at_:Nat)))<|Rv 9 rfl Mv<|Rv 10 rfl Ar<|RW.re 22 (.int .i64 ((at_+k.1:Nat):Int)) rfl (by congr 1)<|Rv 11 rfl Mv<|Rv 12 rfl Nz<|Rv 13 rfl (Fa 0 225)<|Rv 14 rfl (Ld (v:= .slice (some ⟨g,0,none⟩) R.length cap))<|Rv 15 rfl Ln<|Rv 16 rfl (Val.rem rfl rfl (by omega))<|RW.re 28 (.int .i64 ((Rng.ix ⟨R,at_,n⟩ k.1:Nat):Int)) rfl (by rw[mod_nat,hix])<|Rv 17 rfl (Val.indexAddrN (i:=Rng.ix ⟨R,at_,n⟩ k.1) rfl rfl Tryz.underlying225 Tryz.sizeOf94 hixl)<|Rv 18 rfl (La (lkC y) (hl:=hr2))<|Re 19 rfl (Eff.buildSlice (rfl) [_,_,_,_,_] Tryz.underlying225 Tryz.sizeOf94 (by exact Tryz.zeroValue94) rfl rfl rfl rfl (by rfl)) fun b31 _=>Re 20 rfl (Eff.appendAny (lkC y) (sz:=5) (bytes:=48) (z:= .agg #[.string ⟨#[]⟩,.int .u64 0,.int .u64 0,.int .i64 0,.int .i64 0]) (xs:=((rgQ ⟨R,at_,n⟩).take k.1).flatMap lkC) (m0:=k.1) (o:=k.2) (m:=1) (pk:=[ownG 94 (((rgQ ⟨R,at_,n⟩).take k.1).flatMap lkC) (k.2)]) rfl rfl Tryz.underlying225 (by kernel_rfl) rfl (by omega) (by repeat(first|exact .nil|apply Pick.cons|exact .here|apply Ext.there)) (by simp) hk2 (by rfl) (fun hm0=>⟨b31,0,rfl,fun w hw=>V.range_of_block (o:=0) (cs:=lkC y) (r:=[]) (hw.own _ (show InS (b31,.cells (lkC y).toArray 94 (0,0)) _ from(by repeat(first|exact .here|exact .inner .here|exact .inner (.inner .here)|refine .there ?_))).mem) rfl⟩) (by rfl) (by omega) (by omega)) fun o2 ho2=>Rv 21 rfl Av<|Rd<|Bn<|Ps<|Rg<|Lv Ar<|Lv Mv<|Nl ?_
   rw[← show((rgQ ⟨R,at_,n⟩).take (k.1+1)).flatMap lkC=((rgQ ⟨R,at_,n⟩).take k.1).flatMap lkC++lkC y by rw[hts,List.flatMap_append];rfl]
   exact roundA ((k.1+1,o2)) ⟨by simp only;omega,by simp only;rw[hts,List.flatMap_append];exact ho2⟩ (by simp only;omega)
  ·replace h10:=bF h10
   refine Xt<|Te<|Te<|Bh<|Ps<|Sq<|Rg<|Lv Mv<|Lv Av<|Nl<|Ps<|Rt<|Rt1 ?_
   have hk9:k.1=n:=by omega
   have hte:((rgQ ⟨R,at_,n⟩).take k.1)=rgQ ⟨R,at_,n⟩:=by rw[hk9];exact List.take_of_length_le (by omega)
   rw[hte] at hk2⊢
   rw[hk9] at hk2
   intro w' hw;exact⟨k.2,by rw[hql];exact hk2,by rw[hql,hk9],hw.pick (by repeat(first|exact .nil|apply Pick.cons|exact .here|apply Ext.there))⟩
theorem lhead_c (fb:Nat)(r:Rng)(o:V.OwnO)(hr:rgO r o)(w:World)(hs:Sat (rgS 277 fb r o) w):Calls Tryz.prog 360 [.pointer (some ⟨fb,0,none⟩)].toArray w fun e w'=>e= .returned (frontV (rgQ r))∧Below w.heap.size w w':=by
 refine V.calls (rgS 277 fb r o) Tryz.func360 rfl Tryz.ntmps360 (Nat.le_of_ble_eq_true rfl) hs<|Sq<|Rg<|Le AA fun b2 _=>Lv Av<|Nl<|Ps<|Sq<|Sq<|Rg<|Lv Mv<|Lv EP<|Nl<|Ps<|Cf<|Sk<|Ps<|Sq<|Rg<|Lv Mv<|Lv Nz<|Lv (Fa 0 275)<|Le (CV fun w hw=>rhead_c fb r o hr w hw.pk.sat) fun _ _=>Lv Ex<|Lv Ex<|LeN (StW (cs:=lkC ((rgQ r).head?.getD lk0))) fun _ _=>Lv Av<|Nl<|Ps<|Rt<|PQ.retCT (l:=lkC ((rgQ r).head?.getD lk0)) rfl rfl rfl (by repeat(first|exact .here|exact .inner .here|exact .inner (.inner .here)|refine .there ?_)) Tryz.isAgg94 (by exact Tryz.sizeOf94) ?_
 intro w' hw;exact⟨rfl,hw.ro (by repeat(first|exact .nil|apply Pick.cons|exact .here|apply Ext.there)) hs⟩
theorem lpop_c (fb:Nat)(r:Rng)(o:V.OwnO)(hr:rgO r o)(w:World)(hs:Sat (rgS 277 fb r o) w):Calls Tryz.prog 444 [.pointer (some ⟨fb,0,none⟩)].toArray w fun e w'=>∃o2:V.OwnO,rgO r.pop o2∧e= .returned (frontV (rgQ r))∧Hp ⟨w,V.ids ((rgS 277 fb r o))⟩ (rgS 277 fb r.pop o2) w':=by
 refine V.calls (rgS 277 fb r o) Tryz.func444 rfl Tryz.ntmps444 (Nat.le_of_ble_eq_true rfl) hs<|Sq<|Rg<|Le AA fun b2 _=>Lv Av<|Nl<|Ps<|Sq<|Sq<|Rg<|Lv Mv<|Lv EP<|Nl<|Ps<|Cf<|Sk<|Ps<|Sq<|Rg<|Lv Mv<|Lv Nz<|Lv (Fa 0 275)<|Le (CM (rgS 277 fb r o) fun w hw hs0=>rpop_c fb r o hr w hs0) fun o2 ho2=>Lv Ex<|Lv Ex<|LeN (StW (cs:=lkC ((rgQ r).head?.getD lk0))) fun _ _=>Lv Av<|Nl<|Ps<|Rt<|PQ.retCT (l:=lkC ((rgQ r).head?.getD lk0)) rfl rfl rfl (by repeat(first|exact .here|exact .inner .here|exact .inner (.inner .here)|refine .there ?_)) Tryz.isAgg94 (by exact Tryz.sizeOf94) ?_
 intro w' hw;exact⟨o2,ho2,rfl,hw.pick (by repeat(first|exact .nil|apply Pick.cons|exact .here|apply Ext.there))⟩
theorem lpush_c (fb:Nat)(r:Rng)(o:V.OwnO)(x:Lk)(hr:rgO r o)(hm:r.R.length≤50000)(w:World)(hs:Sat (rgS 277 fb r o) w):Calls Tryz.prog 392 [.pointer (some ⟨fb,0,none⟩),.agg (lkC x).toArray].toArray w fun e w'=>∃o2:V.OwnO,rgO (r.push x) o2∧e= .returned (.tuple #[])∧Hp ⟨w,V.ids ((rgS 277 fb r o))⟩ (rgS 277 fb (r.push x) o2) w':=by
 refine V.calls (rgS 277 fb r o) Tryz.func392 rfl Tryz.ntmps392 (Nat.le_of_ble_eq_true rfl) hs<|Sq<|Rg<|Le XA fun b3 _=>Nl<|Ps<|Sq<|Rg<|Lv Mv<|Lv NP<|Nl<|Ps<|Ct<|Dr ([[(b3,.cells (lkC x).toArray 94 (0,0))]])<|Rv 0 rfl Mv<|Rv 1 rfl Nz<|Rv 2 rfl (Fa 0 275)<|Rv 3 rfl (Lw (l:=lkC x))<|Re 4 rfl (CM (rgS 277 fb r o) fun w hw hs0=>rpush_c fb r o x hr hm w hs0) fun o2 ho2=>Rd<|PQ.end0 rfl ?_
 intro w' hw;exact⟨o2,ho2,rfl,hw.pick (by repeat(first|exact .nil|apply Pick.cons|exact .here|apply Ext.there))⟩
theorem lall_c (fb:Nat)(r:Rng)(o:V.OwnO)(hr:rgO r o)(w:World)(hs:Sat (rgS 277 fb r o) w):Calls Tryz.prog 137 [.pointer (some ⟨fb,0,none⟩)].toArray w fun e w'=>∃y:V.OwnO,ownOk 5 (rgQ r).length ((rgQ r).flatMap lkC) y∧e= .returned (ownV (rgQ r).length y)∧Hp ⟨w,V.ids ((rgS 277 fb r o))⟩ (ownG 94 ((rgQ r).flatMap lkC) y::rgS 277 fb r o) w':=by
 refine V.calls (rgS 277 fb r o) Tryz.func137 rfl Tryz.ntmps137 (Nat.le_of_ble_eq_true rfl) hs<|Sq<|Rg<|Lv Av<|Nl<|Ps<|Sq<|Sq<|Rg<|Lv Mv<|Lv EP<|Nl<|Ps<|Cf<|Sk<|Ps<|Sq<|Rg<|Lv Mv<|Lv Nz<|Lv (Fa 0 275)<|Le (CM (rgS 277 fb r o) fun w hw hs0=>rall_c fb r o hr w hs0) fun y hy=>Lv Av<|Nl<|Ps<|Rt<|Rt1 ?_
 intro w' hw;exact⟨y,hy,rfl,hw.pick (by repeat(first|exact .nil|apply Pick.cons|exact .here|apply Ext.there))⟩
theorem lnew_c (w:World):Calls Tryz.prog 122 [].toArray w fun e w'=>∃b:Nat,True∧e= .returned (.pointer (some ⟨b,0,none⟩))∧Hp ⟨w,[]⟩ (rgS 277 b ⟨[],0,0⟩ none) w':=by
 refine V.calls [] Tryz.func122 rfl Tryz.ntmps122 (Nat.le_of_ble_eq_true rfl) (V.sat_nil _)<|Sq<|Rg<|Lv Av<|Nl<|Ps<|Sq<|Rg<|Lv (Bd [_,_,_])<|Le XA fun b2 _=>Lv Av<|Nl<|Ps<|Rt<|Rt1 ?_
 intro w' hw;exact⟨b2,trivial,rfl,hw.perm (by simp[rgC,V.ownG,V.ownS,V.ownV])⟩
theorem rg0_ok:rgO ⟨[],0,0⟩ none:=⟨⟨by simp,by simp,by simp,by simp⟩,rfl,rfl⟩
theorem cp2 {α:Type}{A T R N:List α}{a:Nat}(hA:A.length=a)(hT:T.length=N.length):(A++(T++R)).take a++N++(A++(T++R)).drop (a+N.length)=A++(N++R):=by
 subst hA
 rw[List.take_left,← hT,← List.drop_drop,List.drop_left,List.drop_left,List.append_assoc]
theorem cp1 {α:Type}{A C R:List α}{a:Nat}(hA:A.length=a)(hC:5≤C.length)(hR:5≤R.length):((A++C)++R).take (a+5)++C++((A++C)++R).drop (a+5+C.length)=A++(C.take 5++(C++R.drop 5)):=by
 subst hA
 have h1:((A++C)++R).take (A.length+5)=A++C.take 5:=by
  rw[List.append_assoc,List.take_append,List.take_of_length_le (by omega),show A.length+5-A.length=5 by omega,List.take_append,show 5-C.length=0 by omega]
  simp
 have h2:((A++C)++R).drop (A.length+5+C.length)=R.drop 5:=by
  rw[show A.length+5+C.length=(A++C).length+5 by simp;omega,← List.drop_drop,List.drop_left]
 rw[h1,h2]
 simp
def insL (l:List Lk)(i:Nat)(x:Lk):List Lk:=l.take i++x::l.drop i
theorem insL_len (l:List Lk)(i:Nat)(x:Lk)(hi:i≤l.length):(insL l i x).length=l.length+1:=by unfold insL;simp only[List.length_append,List.length_cons,List.length_take,List.length_drop];omega
theorem lkCs_len (l:List Lk):(l.flatMap lkC).length=l.length*5:=V.flatMap_len lkC_len l
theorem insert_c (l:List Lk)(y:V.OwnO)(i:Nat)(x:Lk)(xb xc:Nat)(w:World)(hy:ownOk 5 l.length (l.flatMap lkC) y)(hl:l.length≤1000)(hi:i≤l.length)(hs:Sat [ownG 94 (l.flatMap lkC) y] w)(hx:w.heap[xb]? =some (.cells (lkC x).toArray 94 (0,0)))(hne:xb∉V.ids [ownG 94 (l.flatMap lkC) y]):
 Calls Tryz.prog 426 [ownV l.length y,.int .i64 (i:Nat),.slice (some ⟨xb,0,none⟩) 1 xc].toArray w fun e w'=>∃y':V.OwnO,ownOk 5 (insL l i x).length ((insL l i x).flatMap lkC) y'∧e= .returned (ownV (insL l i x).length y')∧Hp ⟨w,V.ids [ownG 94 (l.flatMap lkC) y]⟩ [ownG 94 ((insL l i x).flatMap lkC) y'] w':=by
 rw[insL_len l i x hi]
 have hxl:=V.lt_of_some hx
 rcases y with _|⟨gb,rest,cap⟩
 ·have hl0:l=[]:=List.length_eq_zero_iff.1 hy.2
  obtain rfl:i=0:=by rw[hl0] at hi;simpa using hi
  have hfin:(insL l 0 x).flatMap lkC=l.flatMap lkC++lkC x:=by unfold insL;rw[hl0];rfl
  refine V.calls [ownG 94 (l.flatMap lkC) none] Tryz.func426 rfl Tryz.ntmps426 (Nat.le_of_ble_eq_true rfl) hs<|Sq<|Rg<|Lv Av<|Nl<|Ps<|Sq<|Rg<|Lv Mv<|Lv Mv<|Lv (Val.sliceG 0 0 0 rfl Tryz.underlying225 Tryz.sizeOf94 ⟨_,rfl⟩ (by rw[hl0];rfl) rfl (fun _=>rfl) (by omega) (by omega) (by omega))<|Nl<|Ps<|Sq<|Rg<|Lv Mv<|Lv Ln<|Lv Av<|Nl<|Ps<|Sq<|Sq<|Rg<|Lv Mv<|Lv Cm<|LW.re 16 (.bool false) rfl (by rfl)<|Nl<|Ps<|Cf<|Sk<|Ps<|Sq<|Rg<|Lv Mv<|Lv Ln<|Lv Av<|Nl<|Ps<|Sq<|Sq<|Rg<|Lv Mv<|Lv Mv<|Lv Cm<|LW.re 22 (.bool true) rfl (by rfl)<|Nl<|Ps<|Ct<|Sq<|Rg<|Lv Mv<|Lv Mv<|Le (Eff.appendAny (lkC x) (sz:=5) (bytes:=48) (z:= .agg #[.string ⟨#[]⟩,.int .u64 0,.int .u64 0,.int .i64 0,.int .i64 0]) (xs:=l.flatMap lkC) (m0:=l.length) (o:=none) (m:=1) (pk:=[ownG 94 (l.flatMap lkC) none]) rfl rfl Tryz.underlying225 (by kernel_rfl) rfl (by omega) (by repeat(first|exact .nil|apply Pick.cons|exact .here|apply Ext.there)) (by simp) (hy) (by rfl) (fun hm0=>⟨xb,0,rfl,fun w1 hw1=>V.range_of_block (o:=0) (cs:=lkC x) (r:=[]) ((hw1.old xb hxl hne).trans hx) (by simp)⟩) (by rfl) (by omega) (by omega)) fun o9 ho9=>?_
  rw[← hfin] at ho9⊢
  refine Lv Av<|Nl<|Ps<|Rt<|Tr<|Rt1 ?_
  intro w' hw;exact⟨o9,ho9,rfl,hw.pick (by repeat(first|exact .nil|apply Pick.cons|exact .here|apply Ext.there))⟩
 ·obtain⟨A,hA⟩:∃A,A=(l.take i).flatMap lkC:=⟨_,rfl⟩
  obtain⟨C,hC⟩:∃C,C=(l.drop i).flatMap lkC:=⟨_,rfl⟩
  obtain⟨zl,hz⟩:∃zl:List Value,zl=[.string ⟨#[]⟩,.int .u64 0,.int .u64 0,.int .i64 0,.int .i64 0]:=⟨_,rfl⟩
  have hzl:zl.length=5:=by rw[hz];rfl
  have hAC:l.flatMap lkC=A++C:=by rw[hA,hC,← List.flatMap_append,List.take_append_drop]
  have hAl:A.length=i*5:=by rw[hA,lkCs_len,List.length_take];congr 1;omega
  have hCl:C.length=(l.length-i)*5:=by rw[hC,lkCs_len,List.length_drop]
  have hC1:C.all (·.oneCell')=true:=by rw[hC];exact all_one lkC_one _
  have hfin:(insL l i x).flatMap lkC=A++(lkC x++C):=by unfold insL;rw[hA,hC];simp
  have hcap:(A++C).length+rest.length=cap*5:=by rw[← hAC];exact hy.2
  have hcap2:l.length≤cap:=by simp only[List.length_append,hAl,hCl] at hcap;omega
  have hcap3:i*5+(l.length-i)*5+rest.length=cap*5:=by simp only[List.length_append,hAl,hCl] at hcap;omega
  rw[hAC] at hs
  refine V.calls [[(gb,.cells (((A++C)++rest)).toArray 94 (0,0))]] Tryz.func426 rfl Tryz.ntmps426 (Nat.le_of_ble_eq_true rfl) hs<|Sq<|Rg<|Lv Av<|Nl<|Ps<|Sq<|Rg<|Lv Mv<|Lv Mv<|Lv (Val.slice (i) (l.length) (cap) rfl Tryz.underlying225 Tryz.sizeOf94 ⟨_,rfl⟩ rfl rfl (fun _=>rfl) (by omega) (by omega) (by omega))<|Nl<|Ps<|Sq<|Rg<|Lv Mv<|Lv Ln<|Lv Av<|Nl<|Ps<|Sq<|Sq<|Rg<|Lv Mv<|Lv Cm<|LW.re 16 (.bool false) rfl (by rfl)<|Nl<|Ps<|Cf<|Sk<|Ps<|Sq<|Rg<|Lv Mv<|Lv Ln<|Lv Av<|Nl<|Ps<|Sq<|Sq<|Rg<|Lv Mv<|Lv Mv<|Lv Cm<|Nl<|Ps ?_
  refine CW.cond rfl (fun h22=>?_) (fun h22=>?_)
  ·replace h22:=bT h22
   have h22:(i:Int)=(l.length:Int):=h22
   refine Sq<|Rg<|Lv Mv<|Lv Mv<|Le (Eff.appendAny (lkC x) (sz:=5) (bytes:=48) (z:= .agg #[.string ⟨#[]⟩,.int .u64 0,.int .u64 0,.int .i64 0,.int .i64 0]) (xs:=(A++C)) (m0:=l.length) (o:=some (gb,rest,cap)) (m:=1) (pk:=[[(gb,.cells (((A++C)++rest)).toArray 94 (0,0))]]) rfl rfl Tryz.underlying225 (by kernel_rfl) rfl (by omega) (by repeat(first|exact .nil|apply Pick.cons|exact .here|apply Ext.there)) (by rfl) (by rw[← hAC];exact hy) (by rfl) (fun hm0=>⟨xb,0,rfl,fun w1 hw1=>V.range_of_block (o:=0) (cs:=lkC x) (r:=[]) ((hw1.old xb hxl hne).trans hx) (by simp)⟩) (by rfl) (by omega) (by omega)) fun o9 ho9=>Lv Av<|Nl<|Ps<|Rt<|Tr<|Rt1 ?_
   have hC0:C=[]:=List.length_eq_zero_iff.1 (by omega)
   have e9:A++(lkC x++C)=(A++C)++lkC x:=by rw[hC0];simp
   rw[hfin,e9]
   intro w' hw;exact⟨o9,ho9,rfl,hw.pick (by repeat(first|exact .nil|apply Pick.cons|exact .here|apply Ext.there))⟩
  ·replace h22:=bF h22
   have h22:(i:Int)≠(l.length:Int):=h22
   refine Sk<|Ps<|Sq<|Sq<|Rg<|Lv Mv<|Lv Mv<|Lv Ar<|Lv Mv<|Lv (Val.capSl rfl Tryz.underlying225)<|Lv Cm<|Nl<|Ps ?_
   refine CW.cond rfl (fun h31=>?_) (fun h31=>?_)
   ·replace h31:=bT h31
    have h31:(cap:Int)<(l.length:Int)+1:=h31
    refine Sq<|Rg<|Lv Mv<|Lv Mv<|Lv (Val.slice (0) (i) (cap) rfl Tryz.underlying225 Tryz.sizeOf94 rfl ⟨_,rfl⟩ rfl (fun _=>rfl) (by omega) (by omega) (by omega))<|LW.re 34 (.slice (some ⟨gb,0,none⟩) (i) (cap)) rfl (by first|(rw[if_neg (by omega)];simp;done)|(simp;done))<|Lv Mv<|Lv Mv<|Lv Ar<|Lv Mv<|Lv Ar<|LW.re 39 (.int .i64 ((l.length-i+1:Nat):Int)) rfl (by congr 1;omega)<|Le (Eff.appendMake (sz:=5) (bytes:=48) (z:= .agg #[.string ⟨#[]⟩,.int .u64 0,.int .u64 0,.int .i64 0,.int .i64 0]) (zl:=zl) (olds:=A) (k:=l.length-i+1) rfl rfl Tryz.underlying225 Tryz.underlying3 (by kernel_rfl) (by rw[hz];rfl) hzl (by omega) hAl (fun w1 hw1=>V.range_of_block (o:=0) (r:=C++rest) (hw1.own _ (show InS (gb,.cells ((A++C)++rest).toArray 94 (0,0)) _ from(by repeat(first|exact .here|exact .inner .here|exact .inner (.inner .here)|refine .there ?_))).mem) (by simp)) (by omega) (by omega) (by omega) (by omega)) ?_
    rintro o40 ⟨ho40,hs40⟩
    obtain⟨⟨g4,r4,c4⟩,rfl⟩:=Option.isSome_iff_exists.1 hs40
    obtain⟨_,hc4⟩:=ho40
    simp only at hc4
    have hc42:l.length+1≤c4:=by simp only[List.length_append,hAl,V.repL_length,hzl] at hc4;omega
    refine V.LW.perm (sg':=[[(g4,.cells ((A++(zl++(V.repL zl (l.length-i)++r4)))).toArray 94 (0,0))],[(gb,.cells (((A++C)++rest)).toArray 94 (0,0))]]) ?_ (by simp[V.ownG,V.ownS,V.repL])
    refine LW.re 40 (.slice (some ⟨g4,0,none⟩) (l.length+1) c4) rfl (by rw[show i+(l.length-i+1)=l.length+1 from by omega];rfl)<|Lv Av<|Nl<|Ps<|Sq<|Rg<|Lv Mv<|Lv Mv<|Lv (Val.slice (i) (l.length+1) (c4) rfl Tryz.underlying225 Tryz.sizeOf94 ⟨_,rfl⟩ rfl rfl (fun _=>rfl) (by omega) (by omega) (by omega))<|LW.re 43 (.slice (some ⟨g4,i*5,none⟩) (l.length+1-i) (c4-i)) rfl (by first|(rw[if_neg (by omega)];simp;done)|(simp;done))<|Lv Mv<|Le (Eff.copy (cs:=lkC x) (gb:=g4) (cur:=(A++(zl++(V.repL zl (l.length-i)++r4)))) (cells':=((A++lkC x)++(V.repL zl (l.length-i)++r4))) (m:=1) (sz:=5) rfl rfl Tryz.underlying225 (by kernel_rfl) (by repeat(first|exact .here|exact .inner .here|exact .inner (.inner .here)|apply Upd.there)) (by rw[show i*5=A.length from hAl.symm,cp2 rfl (by rw[hzl];rfl),List.append_assoc]) (show min (1) (l.length+1-i)=_ from by omega) (by first|rfl|exact hCl|omega) (fun w1 hw1 j u hj=>by rw[Addr.add_mid];exact(V.range_of_block (o:=0) (cs:=lkC x) (r:=[]) ((hw1.old xb hxl hne).trans hx) (by simp)) j u hj) (by simp only[List.length_append,List.length_drop,List.length_take,hAl,hCl,lkC_len,V.repL_length,hzl,List.length_cons,List.length_nil];omega) (by first|rfl|exact hC1)) fun _ _=>Nl<|Ps<|Sq<|Dr ([[(gb,.cells (((A++C)++rest)).toArray 94 (0,0))]])<|Rv 0 rfl Mv<|Rv 1 rfl Mv<|Rv 2 rfl Mv<|Rv 3 rfl Ar<|RW.re 49 (.int .i64 ((i+1:Nat):Int)) rfl (by congr 1)<|Rv 4 rfl (Val.slice (i+1) (l.length+1) (c4) rfl Tryz.underlying225 Tryz.sizeOf94 ⟨_,rfl⟩ rfl rfl (fun _=>rfl) (by omega) (by omega) (by omega))<|RW.re 50 (.slice (some ⟨g4,(i+1)*5,none⟩) (l.length+1-(i+1)) (c4-(i+1))) rfl (by first|(rw[if_neg (by omega)];simp;done)|(simp;done))<|Rv 5 rfl Mv<|Rv 6 rfl Mv<|Rv 7 rfl (Val.slice (i) (l.length) (cap) rfl Tryz.underlying225 Tryz.sizeOf94 ⟨_,rfl⟩ rfl rfl (fun _=>rfl) (by omega) (by omega) (by omega))<|RW.re 53 (.slice (some ⟨gb,i*5,none⟩) (l.length-i) (cap-i)) rfl (by first|(rw[if_neg (by omega)];simp;done)|(simp;done))<|Re 8 rfl (Eff.copy (cs:=C) (gb:=g4) (cur:=((A++lkC x)++(V.repL zl (l.length-i)++r4))) (cells':=((A++lkC x)++(C++r4))) (m:=l.length-i) (sz:=5) rfl rfl Tryz.underlying225 (by kernel_rfl) (by repeat(first|exact .here|exact .inner .here|exact .inner (.inner .here)|apply Upd.there)) (cp2 (by simp only[List.length_append,hAl,lkC_len];omega) (by rw[V.repL_length,hzl,hCl])) (show min (l.length-i) (l.length+1-(i+1))=_ from by omega) (by first|rfl|exact hCl|omega) (fun w1 hw1 j u hj=>by rw[Addr.add_mid];exact(V.range_of_block (o:=i*5) (cs:=C) (r:=rest) (hw1.own _ (show InS (gb,.cells ((A++C)++rest).toArray 94 (0,0)) _ from(by repeat(first|exact .here|exact .inner .here|exact .inner (.inner .here)|refine .there ?_))).mem) (by rw[List.append_assoc,← hAl,List.drop_left])) j u hj) (by simp only[List.length_append,List.length_drop,List.length_take,hAl,hCl,lkC_len,V.repL_length,hzl,List.length_cons,List.length_nil];omega) (by first|rfl|exact hC1)) ?_
    intro _ _
    refine Rd<|Ps<|Sq<|Rg<|Lv Mv<|Lv Av<|Nl<|Ps<|Rt<|Tr<|Rt1 ?_
    have e9:((A++lkC x)++(C++r4))=(A++(lkC x++C))++r4:=by simp
    rw[hfin]
    intro w' hw
    rw[e9] at hw
    exact⟨some (g4,r4,c4),⟨by simp only[List.length_append,hAl,hCl,lkC_len];omega,by simp only[List.length_append,hAl,hCl,lkC_len,V.repL_length,hzl] at hc4⊢;omega⟩,rfl,hw.pick (ss:=[[(g4,.cells ((A++(lkC x++C))++r4).toArray 94 (0,0))]]) (by repeat(first|exact .nil|apply Pick.cons|exact .here|apply Ext.there))⟩
   ·replace h31:=bF h31
    have h31:(l.length:Int)+1≤(cap:Int):=h31
    refine Sk<|Ps<|Sq<|Rg<|Lv Mv<|Lv Mv<|Lv Mv<|Lv Ar<|LW.re 59 (.int .i64 ((l.length+1:Nat):Int)) rfl (by congr 1)<|Lv (Val.slice (0) (l.length+1) (cap) rfl Tryz.underlying225 Tryz.sizeOf94 rfl ⟨_,rfl⟩ rfl (fun _=>rfl) (by omega) (by omega) (by omega))<|LW.re 60 (.slice (some ⟨gb,0,none⟩) (l.length+1) (cap)) rfl (by first|(rw[if_neg (by omega)];simp;done)|(simp;done))<|Lv Av<|Nl<|Ps<|Sq<|Sq<|Rg<|Lv Mv<|Lv Mv<|Lv Mv<|Lv Mv<|Lv Ar<|LW.re 65 (.int .i64 ((i+1:Nat):Int)) rfl (by congr 1)<|Lv (Val.slice (i+1) (l.length+1) (cap) rfl Tryz.underlying225 Tryz.sizeOf94 ⟨_,rfl⟩ rfl rfl (fun _=>rfl) (by omega) (by omega) (by omega))<|LW.re 66 (.slice (some ⟨gb,(i+1)*5,none⟩) (l.length+1-(i+1)) (cap-(i+1))) rfl (by first|(rw[if_neg (by omega)];simp;done)|(simp;done)) ?_
    refine LW.v rfl rfl (Val.callX (v:= .bool false) rfl (fun w1 hw1=>by
     have hgb:=hw1.own _ (show InS (gb,.cells ((A++C)++rest).toArray 94 (0,0)) _ from(by repeat(first|exact .here|exact .inner .here|exact .inner (.inner .here)|refine .there ?_))).mem
     have hxb:=(hw1.old xb hxl hne).trans hx
     rw[run_callFunc_extern Tryz.func453 (by kernel_rfl) (by kernel_rfl) (by kernel_rfl) (e:=Extern.SlicesOverlaps.overlaps #[225,225] #[4]) (by kernel_rfl)]
     have hr:=Go.Lib.run_overlaps_apart (P:=Tryz.prog) w1 225 4 94 Tryz.underlying225 5 Tryz.sizeOf94 ⟨xb,0,none⟩ ⟨gb,(i+1)*5,none⟩ 1 xc (l.length+1-(i+1)) (cap-(i+1)) (fun h8=>hne (by simp only at h8;rw[h8];exact List.mem_singleton.2 rfl)) 94 94 5 (((A++C)++rest).length) (by simp[World.shape?,hxb,lkC]) (by simp[World.shape?,hgb]) (by simp only[List.length_append,hAl,hCl];omega) (by simp[World.frozen?,hxb]) (by simp[World.frozen?,hxb])
     rw[hr]
     rfl)) ?_
    refine Lv Nt<|LW.re 68 (.bool true) rfl (by rfl)<|Nl<|Ps<|Ct<|Sq<|Dr ([])<|Rv 0 rfl Mv<|Rv 1 rfl Mv<|Rv 2 rfl Mv<|Rv 3 rfl Ar<|RW.re 72 (.int .i64 ((i+1:Nat):Int)) rfl (by congr 1)<|Rv 4 rfl (Val.slice (i+1) (l.length+1) (cap) rfl Tryz.underlying225 Tryz.sizeOf94 ⟨_,rfl⟩ rfl rfl (fun _=>rfl) (by omega) (by omega) (by omega))<|RW.re 73 (.slice (some ⟨gb,(i+1)*5,none⟩) (l.length+1-(i+1)) (cap-(i+1))) rfl (by first|(rw[if_neg (by omega)];simp;done)|(simp;done))<|Rv 5 rfl Mv<|Rv 6 rfl Mv<|Rv 7 rfl (Val.slice (i) (l.length+1) (cap) rfl Tryz.underlying225 Tryz.sizeOf94 ⟨_,rfl⟩ rfl rfl (fun _=>rfl) (by omega) (by omega) (by omega))<|RW.re 76 (.slice (some ⟨gb,i*5,none⟩) (l.length+1-i) (cap-i)) rfl (by first|(rw[if_neg (by omega)];simp;done)|(simp;done))<|Re 8 rfl (Eff.copy (cs:=C) (gb:=gb) (cur:=((A++C)++rest)) (cells':=(A++(C.take 5++(C++rest.drop 5)))) (m:=l.length-i) (sz:=5) rfl rfl Tryz.underlying225 (by kernel_rfl) (by repeat(first|exact .here|exact .inner .here|exact .inner (.inner .here)|apply Upd.there)) (by rw[Nat.add_mul];exact cp1 hAl (by omega) (by simp only[List.length_append,hAl,hCl] at hcap;omega)) (show min (l.length+1-i) (l.length+1-(i+1))=_ from by omega) (by first|rfl|exact hCl|omega) (fun w1 hw1 j u hj=>by rw[Addr.add_mid];exact(V.range_of_block (o:=i*5) (cs:=C) (r:=rest) (hw1.own _ (show InS (gb,.cells ((A++C)++rest).toArray 94 (0,0)) _ from(by repeat(first|exact .here|exact .inner .here|exact .inner (.inner .here)|refine .there ?_))).mem) (by rw[List.append_assoc,← hAl,List.drop_left])) j u hj) (by simp only[List.length_append,List.length_drop,List.length_take,hAl,hCl,lkC_len,V.repL_length,hzl,List.length_cons,List.length_nil];omega) (by first|rfl|exact hC1)) ?_
    intro _ _
    refine Rd<|Ps<|Sq<|Rg<|Lv Mv<|Lv Mv<|Lv (Val.slice (i) (l.length+1) (cap) rfl Tryz.underlying225 Tryz.sizeOf94 ⟨_,rfl⟩ rfl rfl (fun _=>rfl) (by omega) (by omega) (by omega))<|LW.re 80 (.slice (some ⟨gb,i*5,none⟩) (l.length+1-i) (cap-i)) rfl (by first|(rw[if_neg (by omega)];simp;done)|(simp;done))<|Lv Mv<|Le (Eff.copy (cs:=lkC x) (gb:=gb) (cur:=(A++(C.take 5++(C++rest.drop 5)))) (cells':=(A++(lkC x++(C++rest.drop 5)))) (m:=1) (sz:=5) rfl rfl Tryz.underlying225 (by kernel_rfl) (by repeat(first|exact .here|exact .inner .here|exact .inner (.inner .here)|apply Upd.there)) (cp2 hAl (by rw[List.length_take,hCl,lkC_len];omega)) (show min (1) (l.length+1-i)=_ from by omega) (by first|rfl|exact hCl|omega) (fun w1 hw1 j u hj=>by rw[Addr.add_mid];exact(V.range_of_block (o:=0) (cs:=lkC x) (r:=[]) ((hw1.old xb hxl hne).trans hx) (by simp)) j u hj) (by simp only[List.length_append,List.length_drop,List.length_take,hAl,hCl,lkC_len,V.repL_length,hzl,List.length_cons,List.length_nil];omega) (by first|rfl|exact hC1)) fun _ _=>Nl<|Ps<|Sq<|Rg<|Lv Mv<|Lv Av<|Nl<|Ps<|Rt<|Tr<|Rt1 ?_
    have e9:(A++(lkC x++(C++rest.drop 5)))=(A++(lkC x++C))++rest.drop 5:=by simp
    rw[hfin]
    intro w' hw
    rw[e9] at hw
    exact⟨some (gb,rest.drop 5,cap),⟨by simp only[List.length_append,hAl,hCl,lkC_len];omega,by simp only[List.length_append,List.length_drop,hAl,hCl,lkC_len] at hcap⊢;omega⟩,rfl,hw.pick (ss:=[[(gb,.cells ((A++(lkC x++C))++rest.drop 5).toArray 94 (0,0))]]) (by repeat(first|exact .nil|apply Pick.cons|exact .here|apply Ext.there))⟩
instance:Und Tryz.prog 52 (dOf Tryz.underlying52):=⟨Tryz.underlying52⟩
instance:Cal Tryz.prog 182:=⟨Tryz.call182⟩
instance:Cal Tryz.prog 229:=⟨Tryz.call229⟩
instance:Cal Tryz.prog 446:=⟨Tryz.call446⟩
theorem cmp_lt:∀a b:List UInt8,Go.Lib.compareBytes a b<0↔a<b
 |[],[]=>by simp[Go.Lib.compareBytes]
 |[],_::_=>by simp[Go.Lib.compareBytes]
 |_::_,[]=>by simp[Go.Lib.compareBytes]
 |a::x,b::y=>by
  have ih:=cmp_lt x y
  unfold Go.Lib.compareBytes
  rw[List.cons_lt_cons_iff]
  by_cases h1:a<b
  ·simp[h1]
  ·by_cases h2:b<a
   ·have h3:a≠b:=fun e=>by subst e;exact UInt8.lt_irrefl a h2
    simp[h1,h2,h3]
   ·have h3:a=b:=UInt8.toNat_inj.1 (by rw[UInt8.lt_iff_toNat_lt] at h1 h2;omega)
    subst h3
    simp[h1,ih]
theorem cmp_eq:∀a b:List UInt8,Go.Lib.compareBytes a b=0↔a=b
 |[],[]=>by simp[Go.Lib.compareBytes]
 |[],_::_=>by simp[Go.Lib.compareBytes]
 |_::_,[]=>by simp[Go.Lib.compareBytes]
 |a::x,b::y=>by
  have ih:=cmp_eq x y
  unfold Go.Lib.compareBytes
  by_cases h1:a<b
  ·have h3:a≠b:=fun e=>by subst e;exact UInt8.lt_irrefl a h1
   simp[h1,h3]
  ·by_cases h2:b<a
   ·have h3:a≠b:=fun e=>by subst e;exact UInt8.lt_irrefl a h2
    simp[h1,h2,h3]
   ·have h3:a=b:=UInt8.toNat_inj.1 (by rw[UInt8.lt_iff_toNat_lt] at h1 h2;omega)
    subst h3
    simp[h1,ih]
def bsGo (l:List Lk)(key:List UInt8):Nat→Nat→Nat→Nat
 |0,i,_=>i
 |f+1,i,j=>if i<j then(if((l[(i+j)/2]?).getD lk0).key<key then bsGo l key f ((i+j)/2+1) j else bsGo l key f i ((i+j)/2)) else i
theorem bsGo_fuel (l:List Lk)(key:List UInt8):∀(f f' i j:Nat),j-i≤f→j-i≤f'→bsGo l key f i j=bsGo l key f' i j
 |0,0,i,j,_,_=>rfl
 |0,f'+1,i,j,h,_=>by rw[bsGo,bsGo,if_neg (by omega)]
 |f+1,0,i,j,_,h=>by rw[bsGo,bsGo,if_neg (by omega)]
 |f+1,f'+1,i,j,h,h'=>by
  rw[bsGo,bsGo]
  by_cases hij:i<j
  ·rw[if_pos hij,if_pos hij]
   split
   ·exact bsGo_fuel l key f f' _ _ (by omega) (by omega)
   ·exact bsGo_fuel l key f f' _ _ (by omega) (by omega)
  ·rw[if_neg hij,if_neg hij]
theorem bsGo_le (l:List Lk)(key:List UInt8):∀(f i j:Nat),i≤j→bsGo l key f i j≤j
 |0,i,j,h=>h
 |f+1,i,j,h=>by
  rw[bsGo]
  split
  ·split
   ·exact bsGo_le l key f _ _ (by omega)
   ·exact Nat.le_trans (bsGo_le l key f _ _ (by omega)) (by omega)
  ·exact h
theorem half_nat (a:Nat):Value.int .u64 (((a:Nat):Int).fdiv (2^min (Int.toNat 1) IntKind.u64.bits))= .int .u64 ((a/2:Nat):Int):=by
 have e8:(2:Int)^(min (Int.toNat 1) IntKind.u64.bits)=2:=by decide
 rw[e8,Int.fdiv_eq_ediv_of_nonneg _ (by omega)]
 rfl
def posF (l:List Lk)(key:List UInt8):Nat:=bsGo l key l.length 0 l.length
def hasF (l:List Lk)(key:List UInt8):Bool:=decide (posF l key<l.length)&&decide (((l[posF l key]?).getD lk0).key=key)
theorem posF_le (l:List Lk)(key:List UInt8):posF l key≤l.length:=bsGo_le l key _ _ _ (by omega)
theorem bs_step {l:List Lk}{key:List UInt8}{i j:Nat}{x:Lk}(h:i<j)(hx:l[(i+j)/2]? =some x):bsGo l key (j-i) i j=if x.key<key then bsGo l key (j-((i+j)/2+1)) ((i+j)/2+1) j else bsGo l key ((i+j)/2-i) i ((i+j)/2):=by
 obtain⟨f,hf⟩:∃f,j-i=f+1:=⟨j-i-1,by omega⟩
 rw[hf,bsGo,if_pos h,hx,Option.getD_some]
 split
 ·exact bsGo_fuel l key _ _ _ _ (by omega) (by omega)
 ·exact bsGo_fuel l key _ _ _ _ (by omega) (by omega)
theorem cmpS_c (a b:List UInt8)(w:World):Calls Tryz.prog 229 [str a,str b].toArray w fun e w'=>e= .returned (.int .i64 (Go.Lib.compareBytes a b))∧Below w.heap.size w w':=by
 refine V.calls [] Tryz.func229 rfl Tryz.ntmps229 (Nat.le_of_ble_eq_true rfl) (V.sat_nil _)<|Sq<|Rg<|Lv Av<|Nl<|Ps<|Sq<|Rg<|Lv Mv<|Lv Mv ?_
 refine LW.v rfl rfl (Val.callX (v:= .int .i64 (Go.Lib.compareBytes a b)) rfl (fun w1 hw1=>by
  rw[run_callFunc_extern Tryz.func275 (by kernel_rfl) (by kernel_rfl) (by kernel_rfl) (e:=Extern.BytealgCompare.compare) (by kernel_rfl)]
  have hr:=Go.Lib.run_compareString (P:=Tryz.prog) ⟨a.toArray⟩ ⟨b.toArray⟩ w1
  show Result.andThen ((Extern.BytealgCompare.compare #[.string ⟨a.toArray⟩,.string ⟨b.toArray⟩]).run Tryz.prog w1) _=_
  rw[hr]
  rfl)) ?_
 refine Lv Av<|Nl<|Ps<|Rt<|Rt1 ?_
 intro w' hw;exact⟨rfl,hw.below⟩
theorem compare_c (a b:List UInt8)(w:World):Calls Tryz.prog 182 [str a,str b].toArray w fun e w'=>e= .returned (.int .i64 (Go.Lib.compareBytes a b))∧Below w.heap.size w w':=by
 refine V.calls [] Tryz.func182 rfl Tryz.ntmps182 (Nat.le_of_ble_eq_true rfl) (V.sat_nil _)<|Sq<|Rg<|Lv Av<|Nl<|Ps<|Sq<|Rg<|Lv Mv<|Lv Mv<|Le (CV fun w hw=>cmpS_c a b w) fun _ _=>Lv Av<|Nl<|Ps<|Rt<|Rt1 ?_
 intro w' hw;exact⟨rfl,hw.below⟩
theorem find1_c (x:Lk)(key:List UInt8)(w:World):Calls Tryz.prog 447 [.agg (lkC x).toArray,str key].toArray w fun e w'=>e= .returned (.int .i64 (Go.Lib.compareBytes x.key key))∧Below w.heap.size w w':=by
 refine V.calls [] Tryz.func447 rfl Tryz.ntmps447 (Nat.le_of_ble_eq_true rfl) (V.sat_nil _)<|Sq<|Rg<|Le XA fun b2 _=>Lv Av<|Nl<|Ps<|Sq<|Rg<|Lv (Fa 0 9)<|Lv (Ld (v:=str x.key))<|Lv Mv<|Le (CV fun w hw=>compare_c x.key key w) fun _ _=>Lv Av<|Nl<|Ps<|Rt<|Rt1 ?_
 intro w' hw;exact⟨rfl,hw.below⟩
theorem bsearch_c (l:List Lk)(p:Option Addr)(c:Nat)(key:List UInt8)(hl:l.length≤100000)(w:World)(h:V.slAt w p 5 lkC l):Calls Tryz.prog 446 [.slice p l.length c,str key,.func (.func 447) #[] #[]].toArray w fun e w'=>e= .returned (.tuple #[.int .i64 (posF l key:Nat),.bool (hasF l key)])∧Below w.heap.size w w':=by
 refine V.calls [] Tryz.func446 rfl Tryz.ntmps446 (Nat.le_of_ble_eq_true rfl) (V.sat_nil _)<|Sq<|Rg<|Lv Av<|Lv Av<|Nl<|Ps<|Sq<|Rg<|Lv Mv<|Lv Ln<|Lv Av<|Nl<|Ps<|Sq<|Rg<|Lv Mv<|Lv Av<|Lv Av<|Nl<|Ps<|Sq<|Bk<|loopA (γ:=Nat×Nat) (fun k=>[(0,.slice p l.length c),(1,str key),(2,.func (.func 447) #[] #[]),(8,.int .i64 (l.length:Nat)),(9,.int .i64 (k.1:Nat)),(10,.int .i64 (k.2:Nat))]) (fun _=>[]) (fun k=>k.1≤k.2∧k.2≤l.length∧posF l key=bsGo l key (k.2-k.1) k.1 k.2) (fun k=>k.2-k.1) ((0,l.length)) ⟨Nat.zero_le _,Nat.le_refl _,rfl⟩ fun k=>?_
 rintro⟨hk1,hk2,hk3⟩
 refine Sq<|Sq<|Rg<|Lv Mv<|Lv Mv<|Lv Cm<|Nl<|Ps ?_
 refine CW.cond rfl (fun h17=>?_) (fun h17=>?_)
 ·replace h17:=bT h17
  obtain⟨b1,o1,x,hp1,hb1,hx1,hr1⟩:=V.slAt_at h rfl (k:=((k.1+k.2)/2)) (by omega)
  have hbs:=bs_step (key:=key) (show k.1<k.2 by omega) hx1
  refine Sk<|Ps<|Bk<|Sq<|Rg<|Lv Mv<|Lv Mv<|Lv Ar<|LW.re 20 (.int .i64 ((k.1+k.2:Nat):Int)) rfl (by congr 1)<|Lv Cv<|LW.re 21 (.int .u64 ((k.1+k.2:Nat):Int)) rfl (by congr 1;exact IntWalk.u64_in _ (by omega))<|Lv (Val.shr rfl rfl (by omega))<|LW.re 22 (.int .u64 (((k.1+k.2)/2):Nat)) rfl (by rw[half_nat])<|Lv Cv<|LW.re 23 (.int .i64 (((k.1+k.2)/2):Nat)) rfl (by congr 1;exact IntWalk.i64_in _ (by omega))<|Lv Av<|Nl<|Ps<|Sq<|Rg<|Lv Mv<|Lv Mv<|Lv Mv<|Lv ((by rw[hp1];exact Val.indexAddrN (i:=((k.1+k.2)/2)) rfl rfl Tryz.underlying225 Tryz.sizeOf94 (by omega)))<|Lv (Val.loadOA rfl Tryz.isAgg94 hb1 (by simp[ids]) (hr1 (((k.1+k.2)/2)) _ hx1) Tryz.sizeOf94)<|Lv Mv<|Le (Eff.callFV (f:=447) (caps:=[]) rfl rfl Tryz.call447 (fun w hw=>find1_c x key w)) fun _ _=>Lv Cm<|Nl<|Ps ?_
  refine CW.cond rfl (fun h31=>?_) (fun h31=>?_)
  ·replace h31:=bT h31
   rw[if_pos ((cmp_lt _ _).1 h31)] at hbs
   refine Rg<|Lv Mv<|Lv Ar<|Lv Av<|Nl<|Bn ?_
   exact roundA ((((k.1+k.2)/2)+1,k.2)) ⟨by simp only;omega,hk2,by rw[hk3,hbs]⟩ (by simp only;omega)
  ·replace h31:=bF h31
   rw[if_neg (fun e=>by have:=(cmp_lt _ _).2 e;omega)] at hbs
   refine Rg<|Lv Mv<|Lv Av<|Nl<|Bn ?_
   exact roundA ((k.1,((k.1+k.2)/2))) ⟨by simp only;omega,by simp only;omega,by rw[hk3,hbs]⟩ (by simp only;omega)
 ·replace h17:=bF h17
  refine Xt<|Te<|Te<|Bh<|Ps<|Sq<|Rg<|Lv Mv<|Lv Mv<|Lv Mv<|Lv Cm<|Lv Mv ?_
  refine LW.split (d:=39) rfl (fun h39=>?_) (fun h39=>?_)
  ·replace h39:=bT h39
   obtain⟨b2,o2,y,hp2,hb2,hx2,hr2⟩:=V.slAt_at h rfl (k:=k.1) (by omega)
   refine Lv Mv<|Lv Mv<|Lv Mv<|Lv ((by rw[hp2];exact Val.indexAddrN (i:=k.1) rfl rfl Tryz.underlying225 Tryz.sizeOf94 (by omega)))<|Lv (Val.loadOA rfl Tryz.isAgg94 hb2 (by simp[ids]) (hr2 (k.1) _ hx2) Tryz.sizeOf94)<|Lv Mv<|Le (Eff.callFV (f:=447) (caps:=[]) rfl rfl Tryz.call447 (fun w hw=>find1_c y key w)) fun _ _=>Lv Cm<|LW.re 47 (.bool (decide (y.key=key))) rfl (by congr 1;rw[Bool.eq_iff_iff];simp[cmp_eq])<|Lv Pt<|Lv Av<|Lv Av<|Nl<|Ps<|Rt<|Rt2 ?_
   have hpo:posF l key=k.1:=by rw[hk3,show k.2-k.1=0 by omega];rfl
   have hha:hasF l key=decide (y.key=key):=by unfold hasF;rw[hpo,decide_eq_true (by omega),hx2];rfl
   rw[hha,hpo]
   intro w' hw;exact⟨rfl,hw.below⟩
  ·replace h39:=bF h39
   refine Lp<|Lp<|Lp<|Lp<|Lp<|Lp<|Lp<|Lp<|Lv Pf<|Lv Av<|Lv Av<|Nl<|Ps<|Rt<|Rt2 ?_
   have hpo:posF l key=k.1:=by rw[hk3,show k.2-k.1=0 by omega];rfl
   have hha:hasF l key=false:=by unfold hasF;rw[decide_eq_false (by omega)];rfl
   rw[hpo,hha]
   intro w' hw;exact⟨rfl,hw.below⟩
theorem find_o (l:List Lk)(p:Option Addr)(c:Nat)(key:List UInt8)(hl:l.length≤100000)(w:World)(h:V.slAt w p 5 lkC l):Calls Tryz.prog 413 [.slice p l.length c,str key].toArray w fun e w'=>e= .returned (.tuple #[.int .i64 (posF l key:Nat),.bool (hasF l key)])∧Below w.heap.size w w':=by
 refine V.calls [] Tryz.func413 rfl Tryz.ntmps413 (Nat.le_of_ble_eq_true rfl) (V.sat_nil _)<|Sq<|Rg<|Lv Av<|Lv Av<|Nl<|Ps<|Sq<|Rg<|Lv Mv<|Lv Mv<|Le (CV fun w hw=>bsearch_c l p c key hl w (hw.slAt h (by simp[ids]))) fun _ _=>Lv Ex<|Lv Ex<|Lv Av<|Lv Av<|Nl<|Ps<|Rt<|Rt2 ?_
 intro w' hw;exact⟨rfl,hw.below⟩
def textF (l:List UInt8):Int:=xorI (l.foldl stepB 4294967295) 4294967295
theorem text_c (l:List UInt8)(hl:l.length≤100000)(w:World):Calls Tryz.prog 401 [str l].toArray w fun e w'=>e= .returned (.int .u32 (textF l))∧Below w.heap.size w w':=by
 refine V.calls [] Tryz.func401 rfl Tryz.ntmps401 (Nat.le_of_ble_eq_true rfl) (V.sat_nil _)<|Sq<|Rg<|Lv Av<|Nl<|Ps<|Sq<|Rg<|Lv Av<|Nl<|Ps<|Sq<|Sq<|Rg<|Lv Mv<|Lv LnS<|Lv Mv<|Nl<|Ps<|Bk<|loopA (γ:=Nat) (fun j=>[(0,str l),(3,.int .u32 ((l.take j).foldl stepB 4294967295)),(6,.int .i64 (l.length:Nat)),(7,.int .i64 (j:Nat))]) (fun _=>[]) (fun j=>j≤l.length) (fun j=>l.length-j) (0) (Nat.zero_le _) fun j hj=>Sq<|Rg<|Lv Cm<|Nl<|Ps<|Sq ?_
 refine CW.cond rfl (fun h8=>?_) (fun h8=>?_)
 ·replace h8:=bT h8
  obtain⟨u,huj⟩:∃u,l[j]? =some u:=⟨l[j]'(by omega),by simp⟩
  refine Sk<|Ps<|Sq<|Bk<|Sq<|Rg<|Lv Mv<|Lv Av<|Nl<|Ps<|Rg<|Lv Mv<|Lv Mv<|Lv Mv<|Lv (Val.indexStr (i:=j) rfl rfl Tryz.underlying9 huj)<|Le (CV fun w hw=>step_c ((l.take j).foldl stepB 4294967295) u w) fun _ _=>LW.re 14 (.int .u32 ((l.take (j+1)).foldl stepB 4294967295)) rfl (by rw[fold_take huj])<|Lv Av<|Nl<|Bn<|Ps<|Rg<|Lv Ar<|Lv Mv<|Nl ?_
  exact roundA (j+1) (by omega) (by omega)
 ·replace h8:=bF h8
  have hte:l.take j=l:=List.take_of_length_le (by omega)
  refine Xt<|Te<|Te<|Bh<|Ps<|Sq<|Rg<|Lv Mv<|Lv (Val.xor rfl rfl)<|LW.re 17 (.int .u32 (textF l)) rfl (by rw[hte];rfl)<|Lv Av<|Nl<|Ps<|Rt<|Rt1 ?_
  intro w' hw;exact⟨rfl,hw.below⟩
instance:Cal Tryz.prog 401:=⟨Tryz.call401⟩
theorem text_rng (l:List UInt8):0≤textF l∧textF l<4294967296:=by
 unfold textF xorI
 rw[IntKind.wrap_u32]
 omega
def lvB (s:Int)(k:Nat):Int:=IntKind.u32.wrap (BitVec.ofInt IntKind.u32.bits (s.fdiv (2^(min ((31:Int)-(k:Nat)).toNat IntKind.u32.bits)))&&& BitVec.ofInt IntKind.u32.bits 1).toNat
def levF (key:List UInt8):Nat:=if lvB (textF key) 0=0 then 1 else if lvB (textF key) 1=0 then 2 else if lvB (textF key) 2=0 then 3 else 4
theorem levF_rng (key:List UInt8):1≤levF key∧levF key≤4:=by unfold levF;split;omega;split;omega;split<;>omega
theorem lev_at {key:List UInt8}{k:Nat}(hk:k<3)(h:∀j:Nat,j<k→lvB (textF key) j≠0)(h0:lvB (textF key) k=0):levF key=1+k:=by
 unfold levF
 have hc:k=0∨k=1∨k=2:=by omega
 rcases hc with rfl|rfl|rfl
 ·rw[if_pos h0]
 ·rw[if_neg (h 0 (by omega)),if_pos h0]
 ·rw[if_neg (h 0 (by omega)),if_neg (h 1 (by omega)),if_pos h0]
theorem lev_end {key:List UInt8}(h:∀j:Nat,j<3→lvB (textF key) j≠0):levF key=4:=by
 unfold levF
 rw[if_neg (h 0 (by omega)),if_neg (h 1 (by omega)),if_neg (h 2 (by omega))]
def bkF (key:List UInt8):Nat:=(textF key%8).toNat
theorem bkF_lt (key:List UInt8):bkF key<8:=by unfold bkF;omega
theorem level_c (key:List UInt8)(hl:key.length≤100000)(w:World):Calls Tryz.prog 425 [str key].toArray w fun e w'=>e= .returned (.int .i64 (levF key:Nat))∧Below w.heap.size w w':=by
 refine V.calls [] Tryz.func425 rfl Tryz.ntmps425 (Nat.le_of_ble_eq_true rfl) (V.sat_nil _)<|Sq<|Rg<|Lv Av<|Nl<|Ps<|Sq<|Rg<|Lv Mv<|Le (CV fun w hw=>text_c key hl w) fun _ _=>Lv Av<|Nl<|Ps<|Sq<|Rg<|Lv Av<|Nl<|Ps<|Sq<|Sq<|Rg<|Lv Mv<|Nl<|Ps<|Bk<|loopA (γ:=Nat) (fun k=>[(3,.int .u32 (textF key)),(4,.int .i64 ((1+k:Nat):Int)),(8,.int .i64 (k:Nat))]) (fun _=>[]) (fun k=>k≤3∧∀j:Nat,j<k→lvB (textF key) j≠0) (fun k=>3-k) (0) ⟨by omega,fun j hj=>by omega⟩ fun k=>?_
 rintro⟨hk1,hk2⟩
 refine Sq<|Rg<|Lv Cm<|Nl<|Ps<|Sq ?_
 refine CW.cond rfl (fun h9=>?_) (fun h9=>?_)
 ·replace h9:=bT h9
  refine Sk<|Ps<|Sq<|Bk<|Sq<|Rg<|Lv Mv<|Lv Av<|Nl<|Ps<|Sq<|Sq<|Rg<|Lv Mv<|Lv Mv<|Lv Ar<|Lv (Val.shr rfl rfl (by omega))<|Lv (Val.and rfl rfl)<|LW.re 15 (.int .u32 (lvB (textF key) k)) rfl (by rfl)<|Lv Cm<|Nl<|Ps ?_
  refine CW.cond rfl (fun h16=>?_) (fun h16=>?_)
  ·replace h16:=bT h16
   have h16:lvB (textF key) k=0:=h16
   refine Xt<|Te<|Bo<|Te<|Te<|Bh<|Ps<|Sq<|Rg<|Lv Mv<|Lv Av<|Nl<|Ps<|Rt<|Rt1 ?_
   rw[lev_at (by omega) hk2 h16]
   intro w' hw;exact⟨rfl,hw.below⟩
  ·replace h16:=bF h16
   have h16:lvB (textF key) k≠0:=h16
   refine Sk<|Ps<|Rg<|Lv Mv<|Lv Ar<|LW.re 18 (.int .i64 ((1+(k+1):Nat):Int)) rfl (by congr 1)<|Lv Av<|Nl<|Bn<|Ps<|Rg<|Lv Ar<|Lv Mv<|Nl ?_
   refine PQ.round (k+1) ⟨by omega,fun j hj=>by
    rcases Nat.lt_or_ge j k with h|h
    ·exact hk2 j h
    ·have e:j=k:=by omega
     rw[e];exact h16⟩ (by omega) (by repeat(first|exact trivial|refine⟨rfl,?_⟩)) (by repeat(first|exact .nil|apply Pick.cons|exact .here|apply Ext.there))
 ·replace h9:=bF h9
  refine Xt<|Te<|Te<|Bh<|Ps<|Sq<|Rg<|Lv Mv<|Lv Av<|Nl<|Ps<|Rt<|Rt1 ?_
  have hk9:k=3:=by omega
  subst hk9
  rw[lev_end hk2]
  intro w' hw;exact⟨rfl,hw.below⟩
theorem bucket_c (key:List UInt8)(hl:key.length≤100000)(w:World):Calls Tryz.prog 349 [str key].toArray w fun e w'=>e= .returned (.int .i64 (bkF key:Nat))∧Below w.heap.size w w':=by
 have htr:=text_rng key
 refine V.calls [] Tryz.func349 rfl Tryz.ntmps349 (Nat.le_of_ble_eq_true rfl) (V.sat_nil _)<|Sq<|Rg<|Lv Av<|Nl<|Ps<|Sq<|Rg<|Lv Mv<|Le (CV fun w hw=>text_c key hl w) fun _ _=>Lv (Val.rem rfl rfl (by omega))<|Lv Cv<|Lv Av<|Nl<|Ps<|Rt<|Rt1 ?_
 have e8:IntKind.i64.wrap ((textF key).tmod 8)=((bkF key:Nat):Int):=by
  unfold bkF
  rw[Int.tmod_eq_emod_of_nonneg (by omega),IntWalk.i64_in _ (by omega)]
  omega
 intro w' hw;exact⟨by first|rw[e8]|rw[← e8],hw.below⟩
def setL (l:List Lk)(x:Lk):List Lk:=if hasF l x.key=true then l.set (posF l x.key) x else insL l (posF l x.key) x
theorem setL_len (l:List Lk)(x:Lk):(setL l x).length≤l.length+1:=by
 unfold setL
 split
 ·rw[List.length_set];omega
 ·rw[insL_len _ _ _ (posF_le _ _)];omega
abbrev LvO:=List Lk×V.OwnO
def lvOk (p:LvO):Prop:=ownOk 5 p.1.length (p.1.flatMap lkC) p.2
def lvM (p:LvO):V.Seg:=ownG 94 (p.1.flatMap lkC) p.2
def odC (Lv:List LvO):List Value:=Lv.map fun p=>ownV p.1.length p.2
def odM (Lv:List LvO):V.Seg:=Lv.flatMap lvM
abbrev odS (ob:Nat)(Lv:List LvO):Sg:=[[(ob,.cells (odC Lv).toArray 273 (0,0))],odM Lv]
def odOk (Lv:List LvO):Prop:=Lv.length=4∧∀p∈Lv,lvOk p∧p.1.length≤900
theorem odM_at {Lv:List LvO}{i:Nat}{p:LvO}(h:Lv[i]? =some p):(odM Lv).Perm (lvM p++odM (Lv.eraseIdx i)):=by
 obtain⟨hi,hv⟩:=List.getElem?_eq_some_iff.1 h
 unfold odM
 have e1:Lv=Lv.take i++p::Lv.drop (i+1):=by
  have h8:=List.take_append_drop i Lv
  rw[List.drop_eq_getElem_cons hi,hv] at h8
  exact h8.symm
 have e2:Lv.eraseIdx i=Lv.take i++Lv.drop (i+1):=List.eraseIdx_eq_take_drop_succ ..
 rw[e2]
 conv=>lhs;rw[e1]
 simp only[List.flatMap_append,List.flatMap_cons]
 exact List.perm_append_comm_assoc ..
theorem odM_set {Lv:List LvO}{i:Nat}{p q:LvO}(h:Lv[i]? =some p):(odM (Lv.set i q)).Perm (lvM q++odM (Lv.eraseIdx i)):=by
 have hi:=(List.getElem?_eq_some_iff.1 h).1
 have h2:=odM_at (Lv:=Lv.set i q) (i:=i) (p:=q) (List.getElem?_set_self hi)
 have e:(Lv.set i q).eraseIdx i=Lv.eraseIdx i:=by
  rw[List.eraseIdx_eq_take_drop_succ,List.eraseIdx_eq_take_drop_succ,List.take_set_of_le (by omega),List.drop_set_of_lt (by omega)]
 rw[e] at h2
 exact h2
end G
end Go.Proofs.YtpjmdbifacijoaaGreatDoor
namespace Go.Proofs.YtpjmdbifacijoaaGreatDoor.V
open Go Go.RowKit
set_option linter.unusedVariables false
section
variable {P:Program}{n:Nat}{B:Base}{Q:Exit→Act→World→Prop}{ks:Ks}{sg:Sg}{ops:Array Oper}
theorem RW.batchY {S:Sg}{F:Nat}{L:Array Bool}{α:Type}{φ:α→Prop}{v:α→Value}{sg':α→Sg}(rem:List Nat)(ix dx:Nat)(items:List It)(fu:Nat)(hF:F=fu+(items.length+1))(hb:batB ops L rem=true)(hx1:Nat.blt dx n=true)(hx2:(ks.all fun y=> !(Nat.beq y.1 dx))=true)(hk1:(items.all fun x=>Nat.blt x.2.1 n)=true)(hk2:(items.all fun x=>(ks.all fun y=> !(Nat.beq y.1 x.2.1)))=true)(hR:(rem.isPerm (ix::items.map (·.1)))=true)(hk3:(ix::items.map (·.1)).Nodup)(hk4:(dx::items.map (·.2.1)).Nodup)
 (hX:∃o,ops[ix]? =some o∧gd ops ks o.guard=some true∧o.dst=some dx∧Eff P n B o ks sg φ v sg')(hop:Bop P n B ops ks sg items)(hop':∀x,φ x→Bop P n B ops ks (sg' x) items)(hS:∃r,Pick S sg r)(hS':∀x,φ x→∃r,Pick S (sg' x) r)
 (h:∀x,φ x→RW P n B ops Q S fu (LS L rem []) (pushAll items ((dx,v x)::ks)) (sg' x)):RW P n B ops Q S F L ks sg:=by
 subst hF
 have hR:=List.isPerm_iff.1 hR
 intro a w ha hw hS0
 obtain⟨hix,hk3'⟩:=List.nodup_cons.1 hk3
 obtain⟨hdx,hk4'⟩:=List.nodup_cons.1 hk4
 have key:∀k (sub:List Nat),sub.length=k→List.Sublist sub rem→∀a w,Fr n ks a→(∀x∈items,x.1∉sub→a.tmps[x.2.1]? =some x.2.2)→(ix∈sub→Hp B sg w)→(ix∉sub→∃x,φ x∧a.tmps[dx]? =some (v x)∧Hp B (sg' x) w)→Hp B S w→
  wpAnyH P .any ops Q (Hp B S) (fu+k) (LS L rem sub) a w:=by
  intro k
  induction k with
  |zero=>
   intro sub hl hs a w ha hd hw1 hw2 hS1
   obtain rfl:sub=[]:=List.length_eq_zero_iff.1 hl
   obtain⟨x,hx,hxa,hxw⟩:=hw2 (by simp)
   refine h x hx a w ⟨ha.defers,ha.size,fun j u hj=>?_⟩ hxw hS1
   rcases look_pushAll hj with⟨y,hy,rfl,rfl⟩|hj
   ·exact hd y hy (by simp)
   ·simp only[look] at hj
    by_cases e:dx=j
    ·subst e
     simp at hj
     rw[← hj];exact hxa
    ·rw[nbeq e] at hj
     exact ha.at_ j u hj
  |succ k ih=>
   intro sub hl hs a w ha hd hw1 hw2 hS1
   have hne:sub≠[]:=by rintro rfl;simp at hl
   have hnd:sub.Nodup:=hs.nodup (hR.nodup_iff.2 hk3)
   have hr:Region.ready .any ops (LS L rem sub)=sub:=by
    have h1:=List.all_eq_true.1 hb sub (mem_subs hs)
    simp only[Bool.or_eq_true,List.isEmpty_iff,beq_iff_eq] at h1
    exact h1.resolve_left hne
   refine wpAnyH_all hr hne fun i hi=>?_
   have hir:=hs.subset hi
   have hlen:(sub.erase i).length=k:=by rw[List.length_erase_of_mem hi];omega
   have hsub:List.Sublist (sub.erase i) rem:=(List.erase_sublist ..).trans hs
   by_cases hii:i=ix
   ·subst hii
    obtain⟨o,ho,hg,hdst,he⟩:=hX
    unfold wpOp
    simp only[ho]
    rw[if_pos (wanted_gd ha hg)]
    refine .inl (he a w _ _ ha (hw1 hi) fun x w' hx hw'=>?_)
    obtain⟨r,hp⟩:=hS' x hx
    refine⟨hw'.pick hp,?_⟩
    rw[LS_set hi hir hnd,hdst]
    refine ih (sub.erase i) hlen hsub _ w' (ha.new hx1 hx2) (fun y hy hyn=>?_) (fun h5=>absurd h5 (hnd.not_mem_erase)) (fun _=>⟨x,hx,?_,hw'⟩) (hw'.pick hp)
    ·have hyi:y.1≠i:=by rintro rfl;exact hix (List.mem_map_of_mem (f:=fun z:It=>z.1) hy)
     have hyd:y.2.1≠dx:=by rintro e;exact hdx (e▸List.mem_map_of_mem (f:=fun z:It=>z.2.1) hy)
     show(a.tmps.setIfInBounds dx (v x))[y.2.1]? =some y.2.2
     rw[Array.getElem?_setIfInBounds_ne (Ne.symm hyd)]
     exact hd y hy (fun h5=>hyn ((List.mem_erase_of_ne hyi).2 h5))
    ·have hlt:dx<n:=by simpa[Nat.blt_eq] using hx1
     show(a.tmps.setIfInBounds dx (v x))[dx]? =some (v x)
     rw[Array.getElem?_setIfInBounds_self_of_lt (by rw[ha.size];exact hlt)]
   ·have hir2:i∈items.map (·.1):=by
     rcases List.mem_cons.1 (hR.mem_iff.1 hir) with h5|h5
     ·exact absurd h5 hii
     ·exact h5
    obtain⟨x,hx,rfl⟩:=List.mem_map.1 hir2
    have hnx:x.2.1≠dx:=by rintro e;exact hdx (e▸List.mem_map_of_mem (f:=fun z:It=>z.2.1) hx)
    have h1:Nat.blt x.2.1 n=true:=List.all_eq_true.1 hk1 x hx
    have h2:=List.all_eq_true.1 hk2 x hx
    have rest:∀w',∀sgx:Sg,Hp B sgx w'→(∃r,Pick S sgx r)→(ix∈sub→Hp B sg w')→(ix∉sub→∃y,φ y∧a.tmps[dx]? =some (v y)∧Hp B (sg' y) w')→wpAnyH P .any ops Q (Hp B S) (fu+k) (LS L rem (sub.erase x.1)) (a.put (some x.2.1) x.2.2) w':=fun w' sgx hwx hpx hA hB=>by
     obtain⟨r,hp⟩:=hpx
     refine ih (sub.erase x.1) hlen hsub _ w' (ha.new h1 h2) (fun y hy hyn=>?_) (fun h5=>hA (List.mem_of_mem_erase h5)) (fun h5=>?_) (hwx.pick hp)
     ·by_cases e:y.1=x.1
      ·obtain rfl:=inj_fst hk3' hy hx e
       have hlt:y.2.1<n:=by simpa[Nat.blt_eq] using h1
       show(a.tmps.setIfInBounds y.2.1 y.2.2)[y.2.1]? =some y.2.2
       rw[Array.getElem?_setIfInBounds_self_of_lt (by rw[ha.size];exact hlt)]
      ·have hyn2:y.1∉sub:=fun h5=>hyn ((List.mem_erase_of_ne e).2 h5)
       have h6:y.2.1≠x.2.1:=fun h7=>e (by rw[inj_snd hk4' hy hx h7])
       show(a.tmps.setIfInBounds x.2.1 x.2.2)[y.2.1]? =some y.2.2
       rw[Array.getElem?_setIfInBounds_ne (Ne.symm h6)]
       exact hd y hy hyn2
     ·have h6:ix∉sub:=fun h7=>h5 ((List.mem_erase_of_ne (Ne.symm hii)).2 h7)
      obtain⟨y,hy,hya,hyw⟩:=hB h6
      refine⟨y,hy,?_,hyw⟩
      show(a.tmps.setIfInBounds x.2.1 x.2.2)[dx]? =some (v y)
      rw[Array.getElem?_setIfInBounds_ne hnx]
      exact hya
    by_cases hin:ix∈sub
    ·obtain⟨o,ho,hg,hdst,he⟩:=hop.at hx
     unfold wpOp
     simp only[ho]
     rw[if_pos (wanted_gd ha hg)]
     refine .inl (he a w _ _ ha (hw1 hin) fun _ w' _ hw'=>?_)
     obtain⟨r,hp⟩:=hS
     refine⟨hw'.pick hp,?_⟩
     rw[LS_set hi hir hnd,hdst]
     exact rest w' sg hw' ⟨r,hp⟩ (fun _=>hw') (fun h5=>absurd hin h5)
    ·obtain⟨y,hy,hya,hyw⟩:=hw2 hin
     obtain⟨o,ho,hg,hdst,he⟩:=(hop' y hy).at hx
     unfold wpOp
     simp only[ho]
     rw[if_pos (wanted_gd ha hg)]
     refine .inl (he a w _ _ ha hyw fun _ w' _ hw'=>?_)
     obtain⟨r,hp⟩:=hS' y hy
     refine⟨hw'.pick hp,?_⟩
     rw[LS_set hi hir hnd,hdst]
     exact rest w' (sg' y) hw' ⟨r,hp⟩ (fun h5=>absurd h5 hin) (fun _=>⟨y,hy,hya,hw'⟩)
 have h0:=key (items.length+1) rem (by rw[hR.length_eq];simp) (List.Sublist.refl _) a w ha (fun x hx hxn=>absurd (hR.mem_iff.2 (List.mem_cons_of_mem _ (List.mem_map_of_mem hx))) hxn) (fun _=>hw) (fun h5=>absurd (hR.mem_iff.2 (List.mem_cons_self ..)) h5) hS0
 rwa [LS_self] at h0
end
end Go.Proofs.YtpjmdbifacijoaaGreatDoor.V
namespace Go.Proofs.YtpjmdbifacijoaaGreatDoor
open Go Go.RowKit V
set_option linter.unusedVariables false
set_option maxRecDepth 100000
namespace G
open V (str byC ownV ownG ownS ownOk)
instance:Cal Tryz.prog 413:=⟨Tryz.call413⟩
instance:Cal Tryz.prog 425:=⟨Tryz.call425⟩
instance:Cal Tryz.prog 426:=⟨Tryz.call426⟩
theorem odC_at {Lz:List LvO}{i:Nat}{p:LvO}(h:Lz[i]? =some p):(odC Lz)[0+i*1]? =some (ownV p.1.length p.2):=by
 unfold odC
 rw[Nat.zero_add,Nat.mul_one,List.getElem?_map,h]
 rfl
theorem odC_set {Lz:List LvO}{i:Nat}(q:LvO):(odC Lz).set (0+i*1) (ownV q.1.length q.2)=odC (Lz.set i q):=by
 unfold odC
 rw[Nat.zero_add,Nat.mul_one,List.map_set]
def setTo (D:List (List Lk))(x:Lk)(k:Nat):List (List Lk):=D.mapIdx fun i l=>if i<k then setL l x else l
theorem setTo_0 (D:List (List Lk))(x:Lk):setTo D x 0=D:=by
 apply List.ext_getElem?
 intro j
 unfold setTo
 rw[List.getElem?_mapIdx]
 cases D[j]? <;>simp
theorem setTo_succ {D:List (List Lk)}{x:Lk}{k:Nat}{l:List Lk}(h:D[k]? =some l):(setTo D x k).set k (setL l x)=setTo D x (k+1):=by
 apply List.ext_getElem?
 intro j
 unfold setTo
 rw[List.getElem?_set,List.getElem?_mapIdx,List.getElem?_mapIdx]
 have hk:=(List.getElem?_eq_some_iff.1 h).1
 by_cases e:k=j
 ·subst e
  rw[if_pos rfl,if_pos (by simpa using hk),h]
  simp
 ·rw[if_neg e]
  congr 1
  funext l
  by_cases h1:j<k
  ·rw[if_pos h1,if_pos (by omega)]
  ·rw[if_neg h1,if_neg (by omega)]
theorem setTo_at {D:List (List Lk)}{x:Lk}{k:Nat}{l:List Lk}(h:D[k]? =some l):(setTo D x k)[k]? =some l:=by
 unfold setTo
 rw[List.getElem?_mapIdx,h]
 simp
def oset (D:List (List Lk))(x:Lk):List (List Lk):=setTo D x (levF x.key)
def ohad (D:List (List Lk))(x:Lk):Bool:=((D[levF x.key-1]?).map fun l=>hasF l x.key).getD false
theorem odM_perm {Lz:List LvO}{i:Nat}{lp:List Lk}{yp:V.OwnO}(h:Lz[i]? =some (lp,yp))(a b:V.Seg):([a,odM Lz,b]:V.Sg).flatten.Perm ([a,ownG 94 (lp.flatMap lkC) yp,odM (Lz.eraseIdx i),b]:V.Sg).flatten:=by
 have h8:=odM_at h
 simp only[List.flatten_cons,List.flatten_nil,List.append_nil,← List.append_assoc]
 refine List.Perm.append_right _ ?_
 rw[List.append_assoc]
 exact List.Perm.append_left _ h8
theorem odM_perm3 {Lz:List LvO}{i:Nat}{p:LvO}{lp:List Lk}{yp:V.OwnO}(h:Lz[i]? =some p)(a b c:V.Seg)(hc:c=ownG 94 (lp.flatMap lkC) yp):([a,c,odM (Lz.eraseIdx i),b]:V.Sg).flatten.Perm ([a,odM (Lz.set i (lp,yp)),b]:V.Sg).flatten:=by
 have h8:=odM_set (q:=(lp,yp)) h
 subst hc
 simp only[List.flatten_cons,List.flatten_nil,List.append_nil,← List.append_assoc]
 refine List.Perm.append_right _ ?_
 rw[List.append_assoc]
 exact List.Perm.append_left _ h8.symm
theorem oset_c (ob:Nat)(Lz:List LvO)(x:Lk)(hO:odOk Lz)(hx:x.key.length≤100000)(w:World)(hs:Sat (odS ob Lz) w):Calls Tryz.prog 389 [.pointer (some ⟨ob,0,none⟩),.agg (lkC x).toArray].toArray w fun e w'=>∃Lv2:List LvO,((Lv2.map Prod.fst=oset (Lz.map Prod.fst) x)∧Lv2.length=4∧∀p∈Lv2,lvOk p)∧e= .returned (.bool (ohad (Lz.map Prod.fst) x))∧Hp ⟨w,V.ids ((odS ob Lz))⟩ (odS ob Lv2) w':=by
 have hlv:=levF_rng x.key
 have hO4:=hO.1
 refine V.calls (odS ob Lz) Tryz.func389 rfl Tryz.ntmps389 (Nat.le_of_ble_eq_true rfl) hs<|Sq<|Rg<|Le XA fun b3 _=>Lv Av<|Nl<|Ps<|Sq<|Sq<|Rg<|Lv Mv<|Lv EP<|Nl<|Ps<|Cf<|Sk<|Ps<|Sq<|Rg<|Lv Av<|Nl<|Ps<|Sq<|Sq<|Rg<|Lv (Fa 0 9)<|Lv (Ld (v:=str x.key))<|Le (CV fun w hw=>level_c x.key hx w) fun _ _=>Lv Mv<|Nl<|Ps<|Bk<|loopA (γ:=Nat×List LvO×Bool) (fun k=>[(0,.pointer (some ⟨ob,0,none⟩)),(3,.pointer (some ⟨b3,0,none⟩)),(5,.bool k.2.2),(13,.int .i64 (levF x.key:Nat)),(14,.int .i64 (k.1:Nat))]) (fun k=>[[(ob,.cells (odC k.2.1).toArray 273 (0,0))],odM k.2.1,[(b3,.cells (lkC x).toArray 94 (0,0))]]) (fun k=>k.1≤levF x.key∧k.2.1.map Prod.fst=setTo (Lz.map Prod.fst) x k.1∧k.2.1.length=4∧(∀p∈k.2.1,lvOk p)∧(1≤k.1→k.2.2=((((Lz.map Prod.fst)[k.1-1]?).map fun l=>hasF l x.key).getD false))) (fun k=>levF x.key-k.1) ((0,Lz,false)) ⟨Nat.zero_le _,by rw[setTo_0],hO.1,fun p hp=>(hO.2 p hp).1,fun h=>absurd h (by simp)⟩ fun k=>?_
 rintro⟨hk1,hk2,hk3,hk4,hk5⟩
 refine Sq<|Rg<|Lv Cm<|Nl<|Ps<|Sq ?_
 refine CW.cond rfl (fun h15=>?_) (fun h15=>?_)
 ·replace h15:=bT h15
  refine Sk<|Ps<|Sq<|Bk<|Sq<|Rg<|Lv Mv<|Lv Av<|Nl<|Ps<|Sq ?_
  obtain⟨p,hp⟩:∃p,k.2.1[k.1]? =some p:=⟨k.2.1[k.1]'(by omega),by simp⟩
  obtain⟨lp,yp⟩:=p
  have hpk:=hk4 _ (List.mem_of_getElem? hp)
  have hD:(Lz.map Prod.fst)[k.1]? =some lp:=by
   obtain⟨l,hl⟩:∃l,(Lz.map Prod.fst)[k.1]? =some l:=⟨(Lz.map Prod.fst)[k.1]'(by rw[List.length_map,hO.1];omega),List.getElem?_eq_getElem _⟩
   have h8:=setTo_at (x:=x) hl
   rw[← hk2,List.getElem?_map,hp] at h8
   rw[hl,← h8];rfl
  have hlp:lp.length≤900:=by
   rw[List.getElem?_map,Option.map_eq_some_iff] at hD
   obtain⟨q,hq,rfl⟩:=hD
   exact(hO.2 q (List.mem_of_getElem? hq)).2
  have hst:=setTo_succ (x:=x) hD
  obtain⟨ps,cs,hvs,_,hss⟩:=own_slg (e:=94) lkC_len lp yp hpk
  refine V.CW.perm (sg':=[[(ob,.cells (odC k.2.1).toArray 273 (0,0))],ownG 94 (lp.flatMap lkC) yp,odM (k.2.1.eraseIdx k.1),[(b3,.cells (lkC x).toArray 94 (0,0))]]) ?_ (odM_perm hp _ _)
  refine Qt<|Qv Mv<|Qv Mv<|Qv Nz<|Qv (Fa 0 271)<|Qv (Val.indexAddrA (i:=k.1) rfl rfl Tryz.underlying271 Tryz.sizeOf225 (by omega))<|Qv (Ld (v:=ownV lp.length yp) (hl:=odC_at hp))<|QW.re 23 (.slice ps lp.length cs) rfl hvs<|Qv (Fa 0 9)<|Qv (Ld (v:=str x.key))<|Qc (QV fun w hw=>find_o lp ps cs x.key (by omega) w (hss hw (by repeat(first|exact .nil|apply Pick.cons|exact .here|apply Ext.there))))<|Qv Mv<|Qv Ex<|Qv Ex<|Qv Av<|Qv Av<|Ql<|Ps<|Sq<|Rg<|Lv Mv<|Lv Av<|Nl<|Ps<|Sq<|Rg<|Lv Mv<|Nl<|Ps ?_
  refine CW.cond rfl (fun h30=>?_) (fun h30=>?_)
  ·replace h30:=bT h30
   obtain⟨g,rest,cap,rfl⟩:∃g r c,yp=some (g,r,c):=by
    rcases yp with _|⟨g,r,c⟩
    ·have h8:lp.length=0:=hpk.2
     unfold hasF at h30;rw[Bool.and_eq_true,decide_eq_true_eq] at h30;omega
    ·exact⟨g,r,c,rfl⟩
   have hpl:posF lp x.key<lp.length:=by unfold hasF at h30;rw[Bool.and_eq_true,decide_eq_true_eq] at h30;exact h30.1
   obtain⟨z,hz⟩:∃z,lp[posF lp x.key]? =some z:=⟨lp[posF lp x.key],by simp⟩
   have hsl:setL lp x=lp.set (posF lp x.key) x:=by unfold setL;rw[if_pos h30]
   obtain⟨hc1,hc2⟩:=own_cap hpk
   have hok2:lvOk (setL lp x,some (g,rest,cap)):=by
    rw[hsl]
    exact⟨by rw[V.flatMap_len lkC_len],by rw[V.flatMap_len lkC_len,List.length_set];exact hc2⟩
   have hsg:([(g,.cells ((lp.set (posF lp x.key) x).flatMap lkC++rest).toArray 94 (0,0))]:V.Seg)=ownG 94 ((setL lp x).flatMap lkC) (some (g,rest,cap)):=by rw[hsl,V.ownG_some]
   have hod:odC k.2.1=odC (k.2.1.set k.1 (setL lp x,some (g,rest,cap))):=by
    unfold odC
    rw[List.map_set]
    have h8:(k.2.1.map fun p:LvO=>ownV p.1.length p.2)[k.1]? =some (ownV lp.length (some (g,rest,cap))):=by rw[List.getElem?_map,hp];rfl
    obtain⟨h9,h7⟩:=List.getElem?_eq_some_iff.1 h8
    rw[show ownV (setL lp x).length (some (g,rest,cap))=ownV lp.length (some (g,rest,cap)) by rw[hsl,List.length_set],← h7,List.set_getElem_self]
   refine Dr ([[(ob,.cells (odC k.2.1).toArray 273 (0,0))],[(b3,.cells (lkC x).toArray 94 (0,0))]])<|Rv 0 rfl Mv<|Rv 1 rfl Mv<|Rv 2 rfl Nz<|Rv 3 rfl (Fa 0 271)<|Rv 4 rfl (Val.indexAddrA (i:=k.1) rfl rfl Tryz.underlying271 Tryz.sizeOf225 (by omega))<|Rv 5 rfl (Ld (v:= .slice (some ⟨g,0,none⟩) lp.length cap) (hl:=odC_at hp))<|Rv 6 rfl Mv<|Rv 7 rfl (Lw (l:=lkC x))<|Rv 8 rfl (Val.indexAddrN (i:=posF lp x.key) rfl rfl Tryz.underlying225 Tryz.sizeOf94 hpl)<|ReN 9 rfl (Eff.storeA (cs:=lkC x) (l:=lp.flatMap lkC++rest) (l':=(lp.set (posF lp x.key) x).flatMap lkC++rest) rfl rfl (by repeat(first|exact .here|exact .inner .here|exact .inner (.inner .here)|apply Upd.there)) (by have h8:=splice_in lkC_len hz 0 (lkC x) (y:=x) (by rfl) (by simp[lkC_len]) rest;simpa using h8) (by rw[List.length_append,V.flatMap_len lkC_len];have:=Nat.mul_le_mul_right 5 (show posF lp x.key+1≤lp.length from hpl);simp[lkC];omega) Tryz.sizeOf94 (by rfl)) fun _ _=>Rd<|Bn<|Ps<|Rg<|Lv Ar<|Lv Mv<|Nl ?_
   rw[hod]
   refine V.PQ.segs (ss:=[[(ob,.cells (odC (k.2.1.set k.1 (setL lp x,some (g,rest,cap)))).toArray 273 (0,0))],ownG 94 ((setL lp x).flatMap lkC) (some (g,rest,cap)),odM (k.2.1.eraseIdx k.1),[(b3,.cells (lkC x).toArray 94 (0,0))]]) ?_ (by rw[← hsg];repeat(first|exact .nil|apply Pick.cons|exact .here|apply Ext.there))
   refine V.PQ.perm (sg':=[[(ob,.cells (odC (k.2.1.set k.1 (setL lp x,some (g,rest,cap)))).toArray 273 (0,0))],odM (k.2.1.set k.1 (setL lp x,some (g,rest,cap))),[(b3,.cells (lkC x).toArray 94 (0,0))]]) ?_ (odM_perm3 hp _ _ _ rfl)
   refine PQ.round ((k.1+1,k.2.1.set k.1 (setL lp x,some (g,rest,cap)),hasF lp x.key)) ⟨by simp only;omega,by simp only;rw[List.map_set,hk2];exact hst,by simp only[List.length_set];exact hk3,fun q hq=>by
    rcases List.mem_or_eq_of_mem_set hq with hq|rfl
    ·exact hk4 q hq
    ·exact hok2,fun _=>by simp only;rw[Nat.add_sub_cancel,hD];rfl⟩ (by simp only;omega) (by exact⟨rfl,rfl,rfl,rfl,rfl,trivial⟩) (by repeat(first|exact .nil|apply Pick.cons|exact .here|apply Ext.there))
  ·replace h30:=bF h30
   have hsl:setL lp x=insL lp (posF lp x.key) x:=by unfold setL;rw[if_neg (by simp[h30])]
   refine Dr ([[(b3,.cells (lkC x).toArray 94 (0,0))]])<|Rv 0 rfl Mv<|Rv 1 rfl Mv<|Rv 2 rfl Mv<|Rv 3 rfl Mv<|Rv 4 rfl Nz<|Rv 5 rfl (Fa 0 271)<|Rv 6 rfl (Val.indexAddrA (i:=k.1) rfl rfl Tryz.underlying271 Tryz.sizeOf225 (by omega))<|Rv 8 rfl Mv<|Rv 9 rfl (Lw (l:=lkC x))<|Rv 12 rfl Nz<|Rv 13 rfl (Fa 0 271)<|V.RW.batchY [7,10] 10 50 [(7,47,_)] 3 rfl (by kernel_rfl) rfl rfl rfl rfl rfl (by simp) (by simp) ⟨_,rfl,rfl,rfl,Eff.buildSlice (rfl) [_,_,_,_,_] Tryz.underlying225 Tryz.sizeOf94 (by exact Tryz.zeroValue94) rfl rfl rfl rfl (by rfl)⟩ ⟨⟨_,rfl,rfl,rfl,Eff.ofVal (Ld (v:=ownV lp.length yp) (hl:=odC_at hp))⟩,trivial⟩ (fun _ _=>⟨⟨_,rfl,rfl,rfl,Eff.ofVal (Ld (v:=ownV lp.length yp) (hl:=odC_at hp))⟩,trivial⟩) ⟨_,(by repeat(first|exact .nil|apply Pick.cons|exact .here|apply Ext.there))⟩ (fun _ _=>⟨_,(by repeat(first|exact .nil|apply Pick.cons|exact .here|apply Ext.there))⟩) fun b50 _=>Re 11 rfl (CM ([ownG 94 (lp.flatMap lkC) yp]) fun w hw hs0=>insert_c lp yp (posF lp x.key) x b50 1 w hpk (by omega) (posF_le _ _) hs0 (hw.own _ (show InS (b50,.cells (lkC x).toArray 94 (0,0)) _ from(by repeat(first|exact .here|exact .inner .here|exact .inner (.inner .here)|refine .there ?_))).mem) (not_in hw (show Pick [ownG 94 (lp.flatMap lkC) yp] _ _ from(by repeat(first|exact .nil|apply Pick.cons|exact .here|apply Ext.there))) (show InS (b50,.cells (lkC x).toArray 94 (0,0)) _ from(by repeat(first|exact .here|exact .inner .here|exact .inner (.inner .here)|refine .there ?_))))) fun y2 hy2=>?_
   rw[← hsl] at hy2⊢
   have hok2:lvOk (setL lp x,y2):=hy2
   refine Rv 14 rfl (Val.indexAddrA (i:=k.1) rfl rfl Tryz.underlying271 Tryz.sizeOf225 (by omega))<|ReN 15 rfl (Eff.storeX (v:=ownV (setL lp x).length y2) (l:=odC k.2.1) (l':=odC (k.2.1.set k.1 (setL lp x,y2))) rfl rfl (V.ownV_one _ _) (by repeat(first|exact .here|exact .inner .here|exact .inner (.inner .here)|apply Upd.there)) (odC_set (setL lp x,y2)) (by unfold odC;rw[List.length_map];omega) Tryz.sizeOf225) fun _ _=>Rd<|Bn<|Ps<|Rg<|Lv Ar<|Lv Mv<|Nl ?_
   refine V.PQ.segs (ss:=[[(ob,.cells (odC (k.2.1.set k.1 (setL lp x,y2))).toArray 273 (0,0))],ownG 94 ((setL lp x).flatMap lkC) y2,odM (k.2.1.eraseIdx k.1),[(b3,.cells (lkC x).toArray 94 (0,0))]]) ?_ (by repeat(first|exact .nil|apply Pick.cons|exact .here|apply Ext.there))
   refine V.PQ.perm (sg':=[[(ob,.cells (odC (k.2.1.set k.1 (setL lp x,y2))).toArray 273 (0,0))],odM (k.2.1.set k.1 (setL lp x,y2)),[(b3,.cells (lkC x).toArray 94 (0,0))]]) ?_ (odM_perm3 hp _ _ _ rfl)
   refine PQ.round ((k.1+1,k.2.1.set k.1 (setL lp x,y2),hasF lp x.key)) ⟨by simp only;omega,by simp only;rw[List.map_set,hk2];exact hst,by simp only[List.length_set];exact hk3,fun q hq=>by
    rcases List.mem_or_eq_of_mem_set hq with hq|rfl
    ·exact hk4 q hq
    ·exact hok2,fun _=>by simp only;rw[Nat.add_sub_cancel,hD];rfl⟩ (by simp only;omega) (by exact⟨rfl,rfl,rfl,rfl,rfl,trivial⟩) (by repeat(first|exact .nil|apply Pick.cons|exact .here|apply Ext.there))
 ·replace h15:=bF h15
  refine Xt<|Te<|Te<|Bh<|Ps<|Sq<|Rg<|Lv Mv<|Lv Av<|Nl<|Ps<|Rt<|Rt1 ?_
  have hk9:k.1=levF x.key:=by omega
  have hfin:k.2.1.map Prod.fst=oset (Lz.map Prod.fst) x:=by unfold oset;rw[hk2,hk9]
  have hhd:k.2.2=ohad (Lz.map Prod.fst) x:=by unfold ohad;rw[← hk9];exact hk5 (by omega)
  rw[← hhd]
  intro w' hw;exact⟨k.2.1,⟨hfin,hk3,hk4⟩,rfl,hw.pick (by repeat(first|exact .nil|apply Pick.cons|exact .here|apply Ext.there))⟩
instance:Cal Tryz.prog 349:=⟨Tryz.call349⟩
instance:Cal Tryz.prog 424:=⟨Tryz.call424⟩
theorem onew_c (w:World):Calls Tryz.prog 121 [].toArray w fun e w'=>∃b:Nat,True∧e= .returned (.pointer (some ⟨b,0,none⟩))∧Hp ⟨w,[]⟩ (odS b (List.replicate 4 ([],none))) w':=by
 refine V.calls [] Tryz.func121 rfl Tryz.ntmps121 (Nat.le_of_ble_eq_true rfl) (V.sat_nil _)<|Sq<|Rg<|Lv Av<|Nl<|Ps<|Sq<|Rg<|Lv (Bd [_,_,_,_])<|Le XA fun b2 _=>Lv Av<|Nl<|Ps<|Rt<|Rt1 ?_
 intro w' hw;exact⟨b2,trivial,rfl,hw.perm (.refl _)⟩
def byK (k:List UInt8):ByteArray:=⟨k.toArray⟩
theorem byK_inj {a b:List UInt8}:byK a=byK b↔a=b:=by
 unfold byK
 constructor
 ·intro h
  injection h with h
  simpa using congrArg Array.toList h
 ·rintro rfl;rfl
abbrev LE:=List (Nat×Lk)
def lkW (x:Lk):Value:= .agg (lkC x).toArray
def me (E:LE):ME:=E.map fun e=>(e.1,byK e.2.key,lkW e.2)
def lget (E:LE)(k:List UInt8):Option Lk:=(E.find? fun e=>decide (e.2.key=k)).map (·.2)
def lupd (E:LE)(x:Lk):LE:=match E with
 |[]=>[]
 |e::r=>if e.2.key=x.key then(e.1,x)::r else e::lupd r x
def lput (E:LE)(x:Lk)(c:Nat):LE:=if(lget E x.key).isSome then lupd E x else E++[(c,x)]
def lclk (E:LE)(k:List UInt8)(c:Nat):Nat:=if(lget E k).isSome then c else c+1
theorem lget_cons (e:Nat×Lk)(r:LE)(k:List UInt8):lget (e::r) k=if e.2.key=k then some e.2 else lget r k:=by
 unfold lget
 by_cases h:e.2.key=k
 ·rw[if_pos h,List.find?_cons_of_pos (by simpa using h)];rfl
 ·rw[if_neg h,List.find?_cons_of_neg (by simpa using h)]
theorem mget_me (k:List UInt8):∀E:LE,mget (me E) (byK k)=(lget E k).map lkW
 |[]=>rfl
 |e::r=>by
  have h8:=mget_me k r
  rw[lget_cons]
  show(if byK e.2.key=byK k then some (lkW e.2) else mget (me r) (byK k))=_
  by_cases h:e.2.key=k
  ·rw[if_pos h,if_pos (by rw[h])];rfl
  ·rw[if_neg h,if_neg (fun h9=>h (byK_inj.1 h9)),h8]
theorem mupd_me (x:Lk):∀E:LE,mupd (me E) (byK x.key) (lkW x)=me (lupd E x)
 |[]=>rfl
 |e::r=>by
  have h8:=mupd_me x r
  show(if byK e.2.key=byK x.key then(e.1,byK x.key,lkW x)::me r else(e.1,byK e.2.key,lkW e.2)::mupd (me r) (byK x.key) (lkW x))=me (if e.2.key=x.key then(e.1,x)::r else e::lupd r x)
  by_cases h:e.2.key=x.key
  ·rw[if_pos (by rw[h]),if_pos h];rfl
  ·rw[if_neg (fun h9=>h (byK_inj.1 h9)),if_neg h,h8];rfl
theorem mput_me (E:LE)(x:Lk)(c:Nat):mput (me E) (byK x.key) (lkW x) c=me (lput E x c):=by
 unfold mput lput
 rw[mget_me,mupd_me]
 cases h:lget E x.key with
 |none=>simp[me]
 |some y=>simp
theorem mclk_me (E:LE)(k:List UInt8)(c:Nat):mclk (me E) (byK k) c=lclk E k c:=by
 unfold mclk lclk
 rw[mget_me]
 cases lget E k<;>rfl
abbrev Tbl:=List (LE×Nat)
def tbC (ms:List Nat):List Value:=ms.map fun m=> .map (some m)
def tbM (ms:List Nat)(Tz:Tbl):V.Seg:=List.zipWith (fun m p=>(m,mpO (me p.1) p.2)) ms Tz
abbrev tbS (tb:Nat)(ms:List Nat)(Tz:Tbl):Sg:=[[(tb,.cells (tbC ms).toArray 270 (0,0))],tbM ms Tz]
def tbOk (ms:List Nat)(Tz:Tbl):Prop:=ms.length=8∧Tz.length=8
def tb0:Tbl:=List.replicate 8 ([],0)
def tSet (Tz:Tbl)(x:Lk):Tbl:=match Tz[bkF x.key]? with
 |none=>Tz
 |some p=>Tz.set (bkF x.key) (lput p.1 x p.2,lclk p.1 x.key p.2)
def tGet (Tz:Tbl)(k:List UInt8):Option Lk:=(Tz[bkF k]?).bind fun p=>lget p.1 k
theorem tbC_at {ms:List Nat}{i m:Nat}(h:ms[i]? =some m):(tbC ms)[0+i*1]? =some (.map (some m)):=by
 unfold tbC
 rw[Nat.zero_add,Nat.mul_one,List.getElem?_map,h]
 rfl
theorem tbM_at {ms:List Nat}{Tz:Tbl}{i m:Nat}{p:LE×Nat}(h:ms[i]? =some m)(h2:Tz[i]? =some p):(tbM ms Tz)[i]? =some (m,mpO (me p.1) p.2):=by
 unfold tbM
 rw[List.getElem?_zipWith,h,h2]
theorem tbM_set {ms:List Nat}{Tz:Tbl}{i m:Nat}(p:LE×Nat)(h:ms[i]? =some m):(tbM ms Tz).set i (m,mpO (me p.1) p.2)=tbM ms (Tz.set i p):=by
 unfold tbM
 apply List.ext_getElem?
 intro j
 rw[List.getElem?_set,List.getElem?_zipWith,List.getElem?_zipWith,List.getElem?_set]
 by_cases e:i=j
 ·subst e
  rw[if_pos rfl,if_pos rfl,h,List.length_zipWith]
  have hi:=(List.getElem?_eq_some_iff.1 h).1
  by_cases h3:i<Tz.length
  ·rw[if_pos (by omega),if_pos h3]
  ·rw[if_neg (by omega),if_neg h3]
 ·rw[if_neg e,if_neg e]
theorem tSet_len (Tz:Tbl)(x:Lk):(tSet Tz x).length=Tz.length:=by
 unfold tSet
 split
 ·rfl
 ·rw[List.length_set]
theorem tnew_c (w:World):Calls Tryz.prog 120 [].toArray w fun e w'=>∃p:Nat×List Nat,p.2.length=8∧e= .returned (.pointer (some ⟨p.1,0,none⟩))∧Hp ⟨w,[]⟩ (tbS p.1 p.2 tb0) w':=by
 refine V.calls [] Tryz.func120 rfl Tryz.ntmps120 (Nat.le_of_ble_eq_true rfl) (V.sat_nil _)<|Sq<|Rg<|Lv Av<|Nl<|Ps<|Sq<|Rg<|Lv (Bd [_,_,_,_,_,_,_,_])<|Le XA fun b4 _=>Lv Av<|Nl<|Ps<|Sq<|Sq<|Rg<|Lv Mv<|Nl<|Ps<|Bk<|CW.loopU 8<|Sq<|Rg<|Lv Cm<|Nl<|Ps<|Sq<|Ct<|Sk<|Ps<|Sq<|Bk<|Sq<|Rg<|Lv Mv<|Lv Av<|Nl<|Ps<|Rg<|Lv Mv<|Lv Mv<|Le (Eff.makeMap) fun b10_0 _=>Lv Nz<|Lv (Fa 0 268)<|Lv (Val.indexAddrA (i:=0) rfl rfl Tryz.underlying268 Tryz.sizeOf267 (by decide))<|LeN StS fun _ _=>Nl<|Bn<|Ps<|Rg<|Lv Ar<|Lv Mv<|Nl<|PQ.next<|Sq<|Rg<|Lv Cm<|Nl<|Ps<|Sq<|Ct<|Sk<|Ps<|Sq<|Bk<|Sq<|Rg<|Lv Mv<|Lv Av<|Nl<|Ps<|Rg<|Lv Mv<|Lv Mv<|Le (Eff.makeMap) fun b10_1 _=>Lv Nz<|Lv (Fa 0 268)<|Lv (Val.indexAddrA (i:=1) rfl rfl Tryz.underlying268 Tryz.sizeOf267 (by decide))<|LeN StS fun _ _=>Nl<|Bn<|Ps<|Rg<|Lv Ar<|Lv Mv<|Nl<|PQ.next<|Sq<|Rg<|Lv Cm<|Nl<|Ps<|Sq<|Ct<|Sk<|Ps<|Sq<|Bk<|Sq<|Rg<|Lv Mv<|Lv Av<|Nl<|Ps<|Rg<|Lv Mv<|Lv Mv<|Le (Eff.makeMap) fun b10_2 _=>Lv Nz<|Lv (Fa 0 268)<|Lv (Val.indexAddrA (i:=2) rfl rfl Tryz.underlying268 Tryz.sizeOf267 (by decide))<|LeN StS fun _ _=>Nl<|Bn<|Ps<|Rg<|Lv Ar<|Lv Mv<|Nl<|PQ.next<|Sq<|Rg<|Lv Cm<|Nl<|Ps<|Sq<|Ct<|Sk<|Ps<|Sq<|Bk<|Sq<|Rg<|Lv Mv<|Lv Av<|Nl<|Ps<|Rg<|Lv Mv<|Lv Mv<|Le (Eff.makeMap) fun b10_3 _=>Lv Nz<|Lv (Fa 0 268)<|Lv (Val.indexAddrA (i:=3) rfl rfl Tryz.underlying268 Tryz.sizeOf267 (by decide))<|LeN StS fun _ _=>Nl<|Bn<|Ps<|Rg<|Lv Ar<|Lv Mv<|Nl<|PQ.next<|Sq<|Rg<|Lv Cm<|Nl<|Ps<|Sq<|Ct<|Sk<|Ps<|Sq<|Bk<|Sq<|Rg<|Lv Mv<|Lv Av<|Nl<|Ps<|Rg<|Lv Mv<|Lv Mv<|Le (Eff.makeMap) fun b10_4 _=>Lv Nz<|Lv (Fa 0 268)<|Lv (Val.indexAddrA (i:=4) rfl rfl Tryz.underlying268 Tryz.sizeOf267 (by decide))<|LeN StS fun _ _=>Nl<|Bn<|Ps<|Rg<|Lv Ar<|Lv Mv<|Nl<|PQ.next<|Sq<|Rg<|Lv Cm<|Nl<|Ps<|Sq<|Ct<|Sk<|Ps<|Sq<|Bk<|Sq<|Rg<|Lv Mv<|Lv Av<|Nl<|Ps<|Rg<|Lv Mv<|Lv Mv<|Le (Eff.makeMap) fun b10_5 _=>Lv Nz<|Lv (Fa 0 268)<|Lv (Val.indexAddrA (i:=5) rfl rfl Tryz.underlying268 Tryz.sizeOf267 (by decide))<|LeN StS fun _ _=>Nl<|Bn<|Ps<|Rg<|Lv Ar<|Lv Mv<|Nl<|PQ.next<|Sq<|Rg<|Lv Cm<|Nl<|Ps<|Sq<|Ct<|Sk<|Ps<|Sq<|Bk<|Sq<|Rg<|Lv Mv<|Lv Av<|Nl<|Ps<|Rg<|Lv Mv<|Lv Mv<|Le (Eff.makeMap) ?_
 intro b10_6 _
 refine Lv Nz<|Lv (Fa 0 268)<|Lv (Val.indexAddrA (i:=6) rfl rfl Tryz.underlying268 Tryz.sizeOf267 (by decide))<|LeN StS fun _ _=>Nl<|Bn<|Ps<|Rg<|Lv Ar<|Lv Mv<|Nl<|PQ.next<|Sq<|Rg<|Lv Cm<|Nl<|Ps<|Sq<|Ct<|Sk<|Ps<|Sq<|Bk<|Sq<|Rg<|Lv Mv<|Lv Av<|Nl<|Ps<|Rg<|Lv Mv<|Lv Mv<|Le (Eff.makeMap) fun b10_7 _=>Lv Nz<|Lv (Fa 0 268)<|Lv (Val.indexAddrA (i:=7) rfl rfl Tryz.underlying268 Tryz.sizeOf267 (by decide))<|LeN StS fun _ _=>Nl<|Bn<|Ps<|Rg<|Lv Ar<|Lv Mv<|Nl<|PQ.next<|Sq<|Rg<|Lv Cm<|Nl<|Ps<|Sq<|Cf<|Xt<|Te<|Te<|Bh<|Ps<|Sq<|Rg<|Lv Mv<|Lv Av<|Nl<|Ps<|Rt<|Rt1 ?_
 intro w' hw;exact⟨(b4,[b10_0,b10_1,b10_2,b10_3,b10_4,b10_5,b10_6,b10_7]),rfl,rfl,(hw.pick (ss:=[[(b4,.cells [.map (some b10_0),.map (some b10_1),.map (some b10_2),.map (some b10_3),.map (some b10_4),.map (some b10_5),.map (some b10_6),.map (some b10_7)].toArray 270 (0,0))],[(b10_0,mpO [] 0)],[(b10_1,mpO [] 0)],[(b10_2,mpO [] 0)],[(b10_3,mpO [] 0)],[(b10_4,mpO [] 0)],[(b10_5,mpO [] 0)],[(b10_6,mpO [] 0)],[(b10_7,mpO [] 0)]]) (by repeat(first|exact .nil|apply Pick.cons|exact .here|apply Ext.there))).perm (.refl _)⟩
theorem of_c3 (tb:Nat)(ms:List Nat)(Tz:Tbl)(hT:tbOk ms Tz)(key:List UInt8)(hl:key.length≤100000)(m:Nat)(hm:ms[bkF key]? =some m)(w:World)(hs:Sat (tbS tb ms Tz) w):Calls Tryz.prog 424 [.pointer (some ⟨tb,0,none⟩),str key].toArray w fun e w'=>e= .returned (.map (some m))∧Below w.heap.size w w':=by
 have hbk:=bkF_lt key
 refine V.calls (tbS tb ms Tz) Tryz.func424 rfl Tryz.ntmps424 (Nat.le_of_ble_eq_true rfl) hs<|Sq<|Rg<|Lv Av<|Nl<|Ps<|Sq<|Sq<|Rg<|Lv Mv<|Lv EP<|Nl<|Ps<|Cf<|Sk<|Ps<|Sq<|Qt<|Qv Mv<|Qv Mv<|Qc (QV fun w hw=>bucket_c key hl w)<|Qv Nz<|Qv (Fa 0 268)<|Qv (Val.indexAddrA (i:=bkF key) rfl rfl Tryz.underlying268 Tryz.sizeOf267 (by omega))<|Qv (Ld (v:= .map (some m)) (hl:=tbC_at hm))<|Qv Av<|Ql<|Ps<|Rt<|Rt1 ?_
 intro w' hw;exact⟨rfl,hw.ro (by repeat(first|exact .nil|apply Pick.cons|exact .here|apply Ext.there)) hs⟩
theorem tset_c (tb:Nat)(ms:List Nat)(Tz:Tbl)(hT:tbOk ms Tz)(x:Lk)(hl:x.key.length≤100000)(w:World)(hs:Sat (tbS tb ms Tz) w):Calls Tryz.prog 388 [.pointer (some ⟨tb,0,none⟩),.agg (lkC x).toArray].toArray w fun e w'=>∃_u:Unit,True∧e= .returned (.bool (tGet Tz x.key).isSome)∧Hp ⟨w,V.ids (tbS tb ms Tz)⟩ (tbS tb ms (tSet Tz x)) w':=by
 have hbk:=bkF_lt x.key
 obtain⟨m,hm⟩:∃m,ms[bkF x.key]? =some m:=⟨ms[bkF x.key]'(by rw[hT.1];omega),by simp⟩
 obtain⟨p,hp⟩:∃p,Tz[bkF x.key]? =some p:=⟨Tz[bkF x.key]'(by rw[hT.2];omega),by simp⟩
 have hg:tGet Tz x.key=lget p.1 x.key:=by unfold tGet;rw[hp];rfl
 refine V.calls (tbS tb ms Tz) Tryz.func388 rfl Tryz.ntmps388 (Nat.le_of_ble_eq_true rfl) hs<|Sq<|Rg<|Le XA fun b3 _=>Lv Av<|Nl<|Ps<|Sq<|Rg<|Lv Mv<|Lv (Fa 0 9)<|Lv (Ld (v:=str x.key))<|Le (CV fun w hw=>of_c3 tb ms Tz hT x.key hl m hm w (hw.sat.pick (ss:=tbS tb ms Tz) (by repeat(first|exact .nil|apply Pick.cons|exact .here|apply Ext.there)))) fun _ _=>Lv Av<|Nl<|Ps<|Sq<|Sq<|Rg<|Lv Mv<|Lv (Val.eqM rfl rfl Tryz.underlying267)<|Nl<|Ps<|Cf<|Sk<|Ps<|Sq<|Rg<|Lv Mv<|Lv (Fa 0 9)<|Lv (Ld (v:=str x.key))<|Lv (Val.lookup rfl rfl Tryz.underlying267 Tryz.underlying9 Tryz.zeroValue94 (by repeat(first|exact InS.nth (tbM_at hm hp)|refine .there ?_)))<|LW.re 18 (.tuple [lkW ((tGet Tz x.key).getD lk0),.bool (tGet Tz x.key).isSome].toArray) rfl (by rw[hg];show Value.tuple [(mget (me p.1) (byK x.key)).getD _,.bool (mget (me p.1) (byK x.key)).isSome].toArray=_;rw[mget_me];cases lget p.1 x.key<;>rfl)<|Lv Mv<|Lv Ex<|Lv Ex<|Le AA fun b6 _=>LeN StW fun _ _=>Lv Av<|Nl<|Ps<|Sq<|Rg<|Lv Mv<|Lv (Fa 0 9)<|Lv (Ld (v:=str x.key))<|Lv (Lw (l:=lkC x))<|LeN (Eff.mapUpdate rfl rfl rfl Tryz.underlying267 Tryz.underlying9 (by repeat(first|exact Upd.nth (tbM_at hm hp)|apply Upd.there))) fun _ _=>Nl<|Ps<|Sq<|Rg<|Lv Mv<|Lv Av<|Nl<|Ps<|Rt<|Rt1 ?_
 have e8:(tbM ms Tz).set (bkF x.key) (m,mpO (mput (me p.1) (byK x.key) (.agg (lkC x).toArray) p.2) (mclk (me p.1) (byK x.key) p.2))=tbM ms (tSet Tz x):=by
  rw[show(Value.agg (lkC x).toArray)=lkW x from rfl,mput_me,mclk_me]
  unfold tSet
  rw[hp]
  exact tbM_set (lput p.1 x p.2,lclk p.1 x.key p.2) hm
 intro w' hw
 refine⟨(),trivial,rfl,?_⟩
 have h9:=hw.pick (ss:=[[(tb,.cells (tbC ms).toArray 270 (0,0))],(tbM ms Tz).set (bkF x.key) (m,mpO (mput (me p.1) (byK x.key) (.agg (lkC x).toArray) p.2) (mclk (me p.1) (byK x.key) p.2))]) (by repeat(first|exact .nil|apply Pick.cons|exact .here|apply Ext.there))
 rw[e8] at h9
 exact h9
end G
end Go.Proofs.YtpjmdbifacijoaaGreatDoor
namespace Go.Proofs.YtpjmdbifacijoaaGreatDoor
open Go Go.RowKit V
set_option linter.unusedVariables false
set_option maxRecDepth 100000
set_option maxHeartbeats 2000000
namespace G
open V (str byC ownV ownG ownS ownOk)
theorem x_loadU {a:Addr}{x:Int}{w:World}(hc:w.cell? a=some (.int .u64 x)):(callFunc 192 #[.pointer (some a)]).run Tryz.prog w= .ok (.value (.int .u64 x)) w:=run_call_load Tryz.func192 (by kernel_rfl) (by kernel_rfl) (by kernel_rfl) .u64 (by kernel_rfl) hc
theorem uLd_c (b o:Nat)(l:List Value)(T:TypeId)(x:Int)(w:World)(hl:l[o]? =some (.int .u64 x))(hs:Sat [[(b,.cells l.toArray T (0,0))]] w):Calls Tryz.prog 143 [.pointer (some ⟨b,o,none⟩)].toArray w fun e w'=>e= .returned (.int .u64 x)∧Below w.heap.size w w':=by
 refine V.calls [[(b,.cells l.toArray T (0,0))]] Tryz.func143 rfl Tryz.ntmps143 (Nat.le_of_ble_eq_true rfl) hs<|Sq<|Rg<|Lv Av<|Nl<|Ps<|Sq<|Rg<|Lv Mv<|Lv Nz<|Lv (Fa 0 92)<|LW.re 5 (.pointer (some ⟨b,o,none⟩)) rfl rfl<|Lv (Val.ext rfl (fun w hw=>x_loadU (V.cell_of_block (hw.own _ InS.here.mem) (by exact hl))))<|Lv Av<|Nl<|Ps<|Rt<|Rt1 ?_
 intro w' hw;exact⟨rfl,hw.ro (by repeat(first|exact .nil|apply Pick.cons|exact .here|apply Ext.there)) hs⟩
def inU (x:Int):List Value:=[.int .u64 x]
theorem inU_map (l:List Int):l.flatMap inU=l.map (Value.int .u64):=by induction l<;>simp_all[inU]
theorem inI_map (l:List Int):l.flatMap inI=l.map (Value.int .i64):=by induction l<;>simp_all[inI]
theorem zeros_inU (m:Nat):V.repL [.int .u64 0] m=(List.replicate m 0).flatMap inU:=by rw[V.repL_one,inU_map];simp
theorem zeros_inI (m:Nat):V.repL [.int .i64 0] m=(List.replicate m 0).flatMap inI:=by rw[V.repL_one,inI_map];simp
structure Rdr where
 now:Int
 has:List Int
def rdC (hb:Nat)(r:Rdr):List Value:=[.int .u64 r.now,.slice (some ⟨hb,0,none⟩) r.has.length r.has.length]
abbrev rdS (rb hb:Nat)(r:Rdr):Sg:=[[(rb,.cells (rdC hb r).toArray 257 (0,0))],[(hb,.cells (r.has.flatMap inU).toArray 164 (0,0))]]
structure Ckk where
 now:Int
 dur:Int
 clo:Int
 owed:List Int
 noted:List Bool
 left:List Bool
 stp:Value
def ckC (wb:Nat)(c:Ckk):List Value:= .int .u64 c.now:: .int .u64 c.dur:: .int .u64 c.clo:: .slice (some ⟨wb,0,none⟩) c.owed.length c.owed.length::(c.noted.map Value.bool++(c.left.map Value.bool++[c.stp]))
abbrev ckS (cb wb:Nat)(c:Ckk):Sg:=[[(cb,.cells (ckC wb c).toArray 237 (0,0))],[(wb,.cells (c.owed.flatMap inI).toArray 3 (0,0))]]
def ckOk (th:Nat)(c:Ckk):Prop:=c.owed.length=th∧c.noted.length=258∧c.left.length=258
theorem rnew_g (th:Nat)(h1:1≤th)(h4:th≤4)(w:World):Calls Tryz.prog 114 [.int .i64 (th:Nat)].toArray w fun e w'=>∃p:Nat×Nat,True∧e= .returned (.tuple #[.pointer (some ⟨p.1,0,none⟩),.int .i64 0])∧Hp ⟨w,[]⟩ (rdS p.1 p.2 ⟨1,List.replicate th 0⟩) w':=by
 refine V.calls [] Tryz.func114 rfl Tryz.ntmps114 (Nat.le_of_ble_eq_true rfl) (V.sat_nil _)<|Sq<|Rg<|Lv Av<|Lv Av<|Nl<|Ps<|Sq<|Sq<|Rg<|Lv Mv<|Lv Cm<|LW.re 6 (.bool false) rfl (by congr 1;simp;omega)<|Lv Mv<|Lv Mv<|Lv Cm<|Lv Pf<|LW.re 10 (.bool false) rfl (by congr 1;simp;omega)<|Nl<|Ps<|Cf<|Sk<|Ps<|Sq<|Rg<|Lv Mv<|Le (Eff.makeSlice (m:=th) (by_:=8) (zl:=[.int .u64 0]) rfl rfl Tryz.underlying255 (by kernel_rfl) Tryz.sizeOf164 (by exact Tryz.zeroValue164) (by kernel_rfl) rfl (by simp;omega) (by omega) (by omega)) fun bm _=>?_
 rw[zeros_inU]
 refine Lv (Bd [.int .u64 0,.slice (some ⟨bm,0,none⟩) th th])<|Le XA fun b14 _=>Lv Av<|Nl<|Ps<|Sq<|Rg<|Lv Mv<|Lv Nz<|Lv (Fa 0 164)<|Le (CM ([[(b14,.cells ([.int .u64 0,.slice (some ⟨bm,0,none⟩) th th]).toArray 257 (0,0))]]) fun w hw hs0=>aStore_c b14 0 ([.int .u64 0,.slice (some ⟨bm,0,none⟩) th th]) 257 _ (1) w rfl hs0) fun _ _=>Nl<|Ps<|Sq<|Rg<|Lv Mv<|Lv Av<|Lv Av<|Nl<|Ps<|Rt<|Rt2 ?_
 intro w' hw;exact⟨(b14,bm),trivial,rfl,(hw.pick (ss:=[[(b14,.cells (rdC bm ⟨1,List.replicate th 0⟩).toArray 257 (0,0))],[(bm,.cells ((List.replicate th 0).flatMap inU).toArray 164 (0,0))]]) (by unfold rdC;rw[List.length_replicate];exact(by repeat(first|exact .nil|apply Pick.cons|exact .here|apply Ext.there))))⟩
theorem clk_eq (wb th:Nat):clkL (.slice (some ⟨wb,0,none⟩) th th)=ckC wb ⟨0,0,0,List.replicate th 0,List.replicate 258 false,List.replicate 258 false,.nilFunc⟩:=by
 unfold clkL ckC
 rw[List.length_replicate,List.map_replicate,← List.append_assoc,List.replicate_append_replicate]
theorem knew_g (th:Nat)(h1:1≤th)(h4:th≤4)(e0:Int)(he:0≤e0∧e0≤1152921504606846976)(w:World):Calls Tryz.prog 116 [.int .i64 (th:Nat),.int .u64 e0].toArray w fun e w'=>∃p:Nat×Nat,True∧e= .returned (.tuple #[.pointer (some ⟨p.1,0,none⟩),.int .i64 0])∧Hp ⟨w,[]⟩ (ckS p.1 p.2 ⟨e0+1,e0,0,List.replicate th 0,List.replicate 258 false,List.replicate 258 false,.nilFunc⟩) w':=by
 refine V.calls [] Tryz.func116 rfl Tryz.ntmps116 (Nat.le_of_ble_eq_true rfl) (V.sat_nil _)<|Sq<|Rg<|Lv Av<|Lv Av<|Nl<|Ps<|Sq<|Sq<|Rg<|Lv Mv<|Lv Cm<|LW.re 8 (.bool false) rfl (by congr 1;simp;omega)<|Lv Mv<|Lv Mv<|Lv Cm<|LW.re 11 (.bool false) rfl (by congr 1;simp;omega)<|Lv Pf<|Nl<|Ps<|Cf<|Sk<|Ps<|Sq<|Sq<|Rg<|Lv Mv<|Lv Cm<|LW.re 14 (.bool false) rfl (by congr 1;simp;omega)<|Nl<|Ps<|Cf<|Sk<|Ps<|Sq<|Rg<|Lv Mv<|Le (Eff.makeSlice (m:=th) (by_:=8) (zl:=[.int .i64 0]) rfl rfl Tryz.underlying109 (by kernel_rfl) Tryz.sizeOf3 (by exact Tryz.zeroValue3) (by kernel_rfl) rfl (by simp;omega) (by omega) (by omega)) fun bm _=>?_
 rw[zeros_inI]
 refine Lv (Val.build (clkL (.slice (some ⟨bm,0,none⟩) th th)) zero_clk Tryz.underlying237 places237 rfl (by kernel_rfl))<|Le XA fun b18 _=>Lv Av<|Nl<|Ps<|Sq<|Rg<|Lv Mv<|Lv Nz<|Lv (Fa 1 164)<|Lv Mv<|Le (CM ([[(b18,.cells (clkL (.slice (some ⟨bm,0,none⟩) th th)).toArray 237 (0,0))]]) fun w hw hs0=>aStore_c b18 1 (clkL (.slice (some ⟨bm,0,none⟩) th th)) 237 _ (e0) w rfl hs0) fun _ _=>Nl<|Ps<|Sq<|Rg<|Lv Mv<|Lv Nz<|Lv (Fa 0 164)<|Lv Mv<|Lv Ar<|LW.re 28 (.int .u64 (e0+1)) rfl (by congr 1;try (exact IntWalk.u64_in _ (by omega)))<|Le (CM ([[(b18,.cells ((clkL (.slice (some ⟨bm,0,none⟩) th th)).set 1 (.int .u64 e0)).toArray 237 (0,0))]]) fun w hw hs0=>aStore_c b18 0 ((clkL (.slice (some ⟨bm,0,none⟩) th th)).set 1 (.int .u64 e0)) 237 _ (e0+1) w rfl hs0) fun _ _=>Nl<|Ps<|Sq<|Rg<|Lv Mv<|Lv Av<|Lv Av<|Nl<|Ps<|Rt<|Rt2 fun w' hw=>?_
 refine⟨(b18,bm),trivial,rfl,?_⟩
 have h8:=hw.pick (ss:=[[(b18,.cells (((clkL (.slice (some ⟨bm,0,none⟩) th th)).set 1 (.int .u64 e0)).set 0 (.int .u64 (e0+1))).toArray 237 (0,0))],[(bm,.cells ((List.replicate th 0).flatMap inI).toArray 3 (0,0))]]) (by repeat(first|exact .nil|apply Pick.cons|exact .here|apply Ext.there))
 rw[clk_eq] at h8
 exact h8
def slb0:Slb:=⟨0,f8,0⟩
def slbN:Slb:=⟨-1,f8,0⟩
theorem zeros_slb (m:Nat):V.repL (slC slb0) m=(List.replicate m slb0).flatMap slC:=by
 induction m with
 |zero=>rfl
 |succ k ih=>show slC slb0++V.repL (slC slb0) k=_;rw[ih];rfl
def slTo (m k:Nat):List Slb:=List.replicate k slbN++List.replicate (m-k) slb0
theorem slTo_len {m k:Nat}(h:k≤m):(slTo m k).length=m:=by unfold slTo;simp;omega
theorem slTo_at {m k:Nat}(h:k<m):(slTo m k)[k]? =some slb0:=by
 unfold slTo
 rw[List.getElem?_append_right (by simp),List.length_replicate,Nat.sub_self,List.getElem?_replicate,if_pos (by omega)]
theorem slTo_set {m k:Nat}(h:k<m):(slTo m k).set k slbN=slTo m (k+1):=by
 unfold slTo
 rw[List.set_append_right _ _ (by simp),List.length_replicate,Nat.sub_self,show m-k=(m-(k+1))+1 by omega,List.replicate_succ,List.set_cons_zero,show List.replicate (k+1) slbN=List.replicate k slbN++[slbN] by rw[List.replicate_succ'],List.append_assoc]
 rfl
theorem slN_ok (m:Nat)(h:m≤32):plOk (List.replicate m slbN):=⟨fun s hs=>by obtain rfl:=List.eq_of_mem_replicate hs;exact⟨by decide,.inl ⟨rfl,rfl⟩⟩,by simpa using h⟩
theorem slabs_258:slabsF 258=32:=by decide
theorem pnew_g (m:Nat)(h1:1≤m)(h4:m≤32)(w:World):Calls Tryz.prog 117 [.int .i64 (m:Nat)].toArray w fun e w'=>∃p:Nat×Nat,True∧e= .returned (.tuple #[.pointer (some ⟨p.1,0,none⟩),.int .i64 0])∧Hp ⟨w,[]⟩ (plS p.1 p.2 (List.replicate m slbN)) w':=by
 refine V.calls [] Tryz.func117 rfl Tryz.ntmps117 (Nat.le_of_ble_eq_true rfl) (V.sat_nil _)<|Sq<|Rg<|Lv Av<|Lv Av<|Nl<|Ps<|Sq<|Sq<|Rg<|Lv Mv<|Lv Cm<|LW.re 7 (.bool false) rfl (by congr 1;simp;omega)<|Lv Mv<|Lv Mv<|Le (CV fun w hw=>slabs_g 258 w) fun _ _=>Lv Cm<|LW.re 11 (.bool false) rfl (by rw[slabs_258];congr 1;simp;omega)<|Lv Pf<|LW.re 12 (.bool false) rfl (by first|rfl|(rw[slabs_258];congr 1;simp;omega))<|Nl<|Ps<|Cf<|Sk<|Ps<|Sq<|Rg<|Lv Mv<|Le (Eff.makeSlice (m:=m) (by_:=24) (zl:=slC slb0) rfl rfl Tryz.underlying259 (by kernel_rfl) Tryz.sizeOf264 (by exact Tryz.zeroValue264) (by kernel_rfl) rfl (by simp;omega) (by omega) (by omega)) fun bm _=>?_
 rw[zeros_slb]
 refine Lv (Bd [.slice (some ⟨bm,0,none⟩) m m])<|Le XA fun b16 _=>Lv Av<|Nl<|Ps<|Sq<|Sq<|Rg<|Lv Mv<|Lv Nz<|Lv (Fa 0 259)<|Lv Ld<|Lv Ln<|Lv Mv<|Nl<|Ps<|Bk ?_
 rw[show(List.replicate m slb0).flatMap slC=(slTo m 0).flatMap slC from rfl]
 refine loopA (γ:=Nat) (fun k=>[(4,.pointer (some ⟨b16,0,none⟩)),(21,.int .i64 (m:Nat)),(22,.int .i64 (k:Nat))]) (fun k=>[[(b16,.cells [.slice (some ⟨bm,0,none⟩) m m].toArray 261 (0,0))],[(bm,.cells ((slTo m k).flatMap slC).toArray 264 (0,0))]]) (fun k=>k≤m) (fun k=>m-k) (0) (Nat.zero_le _) fun k hk=>Sq<|Rg<|Lv Cm<|Nl<|Ps<|Sq ?_
 refine CW.cond rfl (fun h23=>?_) (fun h23=>?_)
 ·replace h23:=bT h23
  have hk3:k<m:=by omega
  refine Sk<|Ps<|Sq<|Bk<|Sq<|Rg<|Lv Mv<|Lv Av<|Nl<|Ps<|Rg<|Lv Mv<|Lv Nz<|Lv (Fa 0 259)<|Lv Ld<|Lv Mv<|Lv (Val.indexAddrN (i:=k) rfl rfl Tryz.underlying259 Tryz.sizeOf264 (by omega))<|Lv (Fa 0 3)<|LeN (Eff.storeX (v:= .int .i64 (-1)) (l:=(slTo m k).flatMap slC) (l':=(slTo m (k+1)).flatMap slC) rfl rfl rfl (by repeat(first|exact .here|exact .inner .here|exact .inner (.inner .here)|apply Upd.there)) (by have h8:=st10 (slTo_at hk3) 0 (.int .i64 (-1)) (sl_setc slb0 (-1)) (by omega);rw[show({slb0 with c:= -1}:Slb)=slbN from rfl,slTo_set hk3] at h8;simpa[Nat.add_assoc] using h8) (by rw[V.flatMap_len slC_len,slTo_len (by omega)];simp;omega) Tryz.sizeOf3) fun _ _=>Nl<|Bn<|Ps<|Rg<|Lv Ar<|Lv Mv<|Nl ?_
  exact roundA (k+1) (by omega) (by omega)
 ·replace h23:=bF h23
  refine Xt<|Te<|Te<|Bh<|Ps<|Sq<|Rg<|Lv Mv<|Lv Av<|Lv Av<|Nl<|Ps<|Rt<|Rt2 ?_
  have hk9:k=m:=by omega
  have e9:slTo m k=List.replicate m slbN:=by rw[hk9];unfold slTo;simp
  rw[e9]
  intro w' hw
  refine⟨(b16,bm),trivial,rfl,?_⟩
  unfold plS
  rw[List.length_replicate]
  exact hw.pick (by repeat(first|exact .nil|apply Pick.cons|exact .here|apply Ext.there))
theorem bnew_g (w:World):Calls Tryz.prog 119 [].toArray w fun e w'=>∃b:Nat,True∧e= .returned (.pointer (some ⟨b,0,none⟩))∧Hp ⟨w,[]⟩ ([[(b,.cells [.slice none 0 0].toArray 266 (0,0))]]) w':=by
 refine V.calls [] Tryz.func119 rfl Tryz.ntmps119 (Nat.le_of_ble_eq_true rfl) (V.sat_nil _)<|Sq<|Rg<|Lv Av<|Nl<|Ps<|Sq<|Rg<|Lv (Bd [_])<|Le XA fun b2 _=>Lv Av<|Nl<|Ps<|Rt<|Rt1 ?_
 intro w' hw;exact⟨b2,trivial,rfl,hw⟩
end G
end Go.Proofs.YtpjmdbifacijoaaGreatDoor
namespace Go.Proofs.YtpjmdbifacijoaaGreatDoor
open Go Go.RowKit V
set_option linter.unusedVariables false
set_option maxRecDepth 100000
namespace G
open V (str byC ownV ownG ownS ownOk)
structure Ent where
 line:Int
 cls:Int
 R:Int
 E:Int
 anti:Int
def enC (x:Ent):List Value:=[.int .i64 x.line,.int .i64 x.cls,.int .u64 x.R,.int .u64 x.E,.int .i64 x.anti]
theorem enC_len (x:Ent):(enC x).length=5:=rfl
structure Eft where
 kind:Int
 key:List UInt8
 val:List UInt8
 id:Int
 ver:Int
 ep:Int
 grp:Int
def efC (x:Eft):List Value:=[.int .i64 x.kind,str x.key,str x.val,.int .u64 x.id,.int .u64 x.ver,.int .u64 x.ep,.int .i64 x.grp]
structure ArR where
 a:Nat
 dv:Nat
 pb:Nat
 sb:Nat
 rb:Nat
 hb:Nat
 cb:Nat
 wb:Nat
 lb:Nat
 tb:Nat
 ob:Nat
 fb:Nat
 ms:List Nat
structure ArS where
 dn:Int
 m1:Int
 m2:Int
 L:List Slb
 rd:Rdr
 ck:Ckk
 bg:List Ent
 bo:V.OwnO
 Tz:Tbl
 Lz:List LvO
 rg:Rng
 ro:V.OwnO
 id:Int
 ver:Int
 ef:List Eft
 eo:V.OwnO
def arC (x:ArR)(s:ArS):List Value:=[.pointer (some ⟨x.dv,0,none⟩),.pointer (some ⟨x.pb,0,none⟩),.pointer (some ⟨x.rb,0,none⟩),.pointer (some ⟨x.cb,0,none⟩),.pointer (some ⟨x.lb,0,none⟩),.pointer (some ⟨x.tb,0,none⟩),.pointer (some ⟨x.ob,0,none⟩),.pointer (some ⟨x.fb,0,none⟩),.int .u64 s.id,.int .u64 s.ver,ownV s.ef.length s.eo]
def avC (db:Nat)(s:ArS):List Value:=[.pointer (some ⟨db,0,none⟩),.int .u32 s.dn,.int .i32 s.m1,.int .u32 s.m2]
abbrev bgS (lb:Nat)(l:List Ent)(o:V.OwnO):Sg:=[[(lb,.cells [ownV l.length o].toArray 266 (0,0))],ownG 244 (l.flatMap enC) o]
abbrev arS (x:ArR)(s:ArS)(db:Nat):Sg:=[(x.a,.cells (arC x s).toArray 166 (0,0))]::[(x.dv,.cells (avC db s).toArray 178 (0,0))]::(plS x.pb x.sb s.L++(rdS x.rb x.hb s.rd++(ckS x.cb x.wb s.ck++(bgS x.lb s.bg s.bo++(tbS x.tb x.ms s.Tz++(odS x.ob s.Lz++(rgS 277 x.fb s.rg s.ro++[ownG 298 (s.ef.flatMap efC) s.eo])))))))
structure ArOk (th n:Nat)(x:ArR)(s:ArS):Prop where
 pl:plOk s.L
 sl:s.L.length=(slabsF n).toNat
 rd:s.rd.has.length=th
 ck:ckOk th s.ck
 bg:ownOk 5 s.bg.length (s.bg.flatMap enC) s.bo
 tb:tbOk x.ms s.Tz
 od:s.Lz.length=4∧∀p∈s.Lz,lvOk p
 rg:rgO s.rg s.ro
 ef:ownOk 7 s.ef.length (s.ef.flatMap efC) s.eo
def ar0 (th n:Nat)(e0:Int):ArS:=⟨0,0,0,List.replicate (slabsF n).toNat slbN,⟨1,List.replicate th 0⟩,⟨e0+1,e0,0,List.replicate th 0,List.replicate 258 false,List.replicate 258 false,.nilFunc⟩,[],none,tb0,List.replicate 4 ([],none),⟨[],0,0⟩,none,0,0,[],none⟩
theorem slabs_rng {n:Nat}(h:10≤n):1≤slabsF n∧slabsF n≤32:=by
 unfold slabsF
 rw[if_neg (by omega)]
 have h1:min ((n:Nat):Int) 258=if(258:Int)<n then 258 else n:=by split<;>omega
 rw[h1]
 split<;>omega
theorem ar0_ok (th n:Nat)(x:ArR)(hx:x.ms.length=8)(e0:Int)(h:10≤n):ArOk th n x (ar0 th n e0):=by
 have h8:=slabs_rng h
 refine⟨slN_ok _ (by omega),by simp[ar0],by simp[ar0],⟨by simp[ar0],by simp[ar0],by simp[ar0]⟩,⟨rfl,rfl⟩,⟨hx,by simp[ar0,tb0]⟩,?_,rg0_ok,⟨rfl,rfl⟩⟩
 refine⟨by simp[ar0],fun p hp=>?_⟩
 obtain rfl:=List.eq_of_mem_replicate hp
 exact⟨rfl,rfl⟩
theorem made_g (xd:DvR)(D:List Ce)(k:Cnt)(hD:10≤D.length∧D.length≤1000)(th:Nat)(h1:1≤th)(h4:th≤4)(e0:Int)(he:0≤e0∧e0≤1152921504606846976)(w:World)(hs:Sat (dvS xd D k) w):Calls Tryz.prog 87 [.pointer (some ⟨xd.db,0,none⟩),.int .i64 (th:Nat),.int .u64 e0].toArray w fun e w'=>∃x:ArR,x.ms.length=8∧e= .returned (.tuple #[.pointer (some ⟨x.a,0,none⟩),.int .i64 0])∧Hp ⟨w,V.ids ((dvS xd D k))⟩ (arS x (ar0 th D.length e0) xd.db++dvS xd D k) w':=by
 have hsr:=slabs_rng hD.1
 refine V.calls (dvS xd D k) Tryz.func87 rfl Tryz.ntmps87 (Nat.le_of_ble_eq_true rfl) hs<|Sq<|Rg<|Lv Av<|Lv Av<|Nl<|Ps<|Sq<|Rg<|Lv Mv<|Le (CM [] fun w hw hs=>rnew_g th h1 h4 w) fun a1 _=>Lv Mv<|Lv Ex<|Lv Ex<|Lv Av<|Lv Av<|Nl<|Ps<|Sq<|Sq<|Rg<|Lv Mv<|Lv Cm<|Lv Mv<|Lv Mv<|Le (CV fun w hw=>lines_g xd.db D.length xd.cap _ (ctC k) w hw.at) fun _ _=>Lv Cm<|LW.re 23 (.bool false) rfl (by congr 1;simp;omega)<|Lv Pf<|LW.re 24 (.bool false) rfl (by rfl)<|Nl<|Ps<|Cf<|Sk<|Ps<|Sq<|Rg<|Lv Mv<|Lv Mv<|Le (CM [] fun w hw hs=>knew_g th h1 h4 e0 he w) fun a2 _=>Lv Mv<|Lv Ex<|Lv Ex<|Lv Av<|Lv Av<|Nl<|Ps<|Sq<|Sq<|Rg<|Lv Mv<|Lv Cm<|Nl<|Ps<|Cf<|Sk<|Ps<|Sq<|Rg<|Lv Mv<|Le (CV fun w hw=>lines_g xd.db D.length xd.cap _ (ctC k) w hw.at) fun _ _=>Le (CV fun w hw=>slabs_g (D.length:Nat) w) fun _ _=>LW.re 37 (.int .i64 ((slabsF D.length).toNat:Nat)) rfl (by congr 1;omega)<|Le (CM [] fun w hw hs=>pnew_g (slabsF D.length).toNat (by omega) (by omega) w) fun a3 _=>Lv Mv<|Lv Ex<|Lv Ex<|Lv Av<|Lv Av<|Nl<|Ps<|Sq<|Rg<|Lv Mv<|Lv (Bd [_,_,_,_])<|Le XA fun b43 _=>Lv Mv<|Lv Mv<|Lv Mv<|Le (CM [] fun w hw hs=>bnew_g w) fun a4 _=>Le (CM [] fun w hw hs=>tnew_c w) fun a5 h5=>Le (CM [] fun w hw hs=>onew_c w) fun a6 _=>Le (CM [] fun w hw hs=>lnew_c w) fun a7 _=>Lv (Bd [_,_,_,_,_,_,_,_,_,_,_])<|Le XA fun b52 _=>Lv Av<|Lv Av<|Nl<|Ps<|Rt<|Rt2 fun w' hw=>?_
 refine⟨⟨b52,b43,a3.1,a3.2,a1.1,a1.2,a2.1,a2.2,a4,a5.1,a6,a7,a5.2⟩,h5,rfl,?_⟩
 exact(hw.pick (ss:=[(b52,.cells (arC ⟨b52,b43,a3.1,a3.2,a1.1,a1.2,a2.1,a2.2,a4,a5.1,a6,a7,a5.2⟩ (ar0 th D.length e0)).toArray 166 (0,0))]::[(b43,.cells (avC xd.db (ar0 th D.length e0)).toArray 178 (0,0))]::(plS a3.1 a3.2 (List.replicate (slabsF D.length).toNat slbN)++(rdS a1.1 a1.2 ⟨1,List.replicate th 0⟩++(ckS a2.1 a2.2 ⟨e0+1,e0,0,List.replicate th 0,List.replicate 258 false,List.replicate 258 false,.nilFunc⟩++([[(a4,.cells [.slice none 0 0].toArray 266 (0,0))]]++(tbS a5.1 a5.2 tb0++(odS a6 (List.replicate 4 ([],none))++(rgS 277 a7 ⟨[],0,0⟩ none++dvS xd D k)))))))) (by repeat(first|exact .nil|apply Pick.cons|exact .here|apply Ext.there))).perm (.refl _)
instance:Und Tryz.prog 81 (dOf Tryz.underlying81):=⟨Tryz.underlying81⟩
instance:Siz Tryz.prog 81 (kOf Tryz.sizeOf81):=⟨Tryz.sizeOf81⟩
instance:AgF Tryz.prog 81:=⟨Tryz.isAgg81⟩
instance:Cal Tryz.prog 183:=⟨Tryz.call183⟩
theorem own_src {l:List UInt8}{y:V.OwnO}(hy:ownOk 1 l.length (byC l) y):∃(p:Option Addr) (c:Nat),ownV l.length y= .slice p l.length c∧l.length≤c∧(0<l.length→∃b,p=some ⟨b,0,none⟩∧∀{B:V.Base} {sg r:V.Sg} {w:World},Hp B sg w→Pick [ownG 5 (byC l) y] sg r→w.rangeAt b 0 (byC l))∧∀{B:V.Base} {sg r:V.Sg} {w:World},Hp B sg w→Pick [ownG 5 (byC l) y] sg r→V.slAt w p 1 byE l:=by
 have hy2:ownOk 1 l.length (l.flatMap byE) y:=by rw[← byC_flat];exact hy
 obtain⟨p,c,h1,h3,h2⟩:=own_slg (e:=5) byE_len l y hy2
 refine⟨p,c,h1,h3 (by omega),fun h0=>?_,fun hw hp=>h2 hw (by rw[← byC_flat];exact hp)⟩
 rcases y with _|⟨g,r,cap⟩
 ·have:=hy.2;omega
 ·refine⟨g,?_,fun hw hp=>?_⟩
  ·have h8:ownV l.length (some (g,r,cap))= .slice (some ⟨g,0,none⟩) l.length cap:=rfl
   rw[h8] at h1
   injection h1 with h9
   exact h9.symm
  ·exact V.range_of_block (o:=0) (r:=r) ((hw.pick hp).own _ (show InS (g,.cells (byC l++r).toArray 5 (0,0)) [[(g,.cells (byC l++r).toArray 5 (0,0))]] from .here).mem) (by simp)
def linesL (D:List Ce)(line:Int)(n:Nat):List UInt8:=(List.range n).flatMap fun i:Nat=>nowL D (line+(i:Nat))
theorem nowL_le (D:List Ce)(line:Int):(nowL D line).length≤64:=by
 unfold nowL
 split
 ·cases h:D[line.toNat]? with
  |none=>simp
  |some c=>simp[c.now.2]
 ·simp
theorem linesL_succ (D:List Ce)(line:Int)(n:Nat):linesL D line (n+1)=linesL D line n++nowL D (line+(n:Nat)):=by
 unfold linesL;rw[List.range_succ,List.flatMap_append,List.flatMap_singleton]
theorem linesL_le (D:List Ce)(line:Int):∀n,(linesL D line n).length≤64*n
 |0=>by simp[linesL]
 |n+1=>by
  rw[linesL_succ,List.length_append]
  have:=linesL_le D line n
  have:=nowL_le D (line+(n:Nat))
  omega
end G
end Go.Proofs.YtpjmdbifacijoaaGreatDoor
namespace Go.Proofs.YtpjmdbifacijoaaGreatDoor.V
open Go Go.RowKit
set_option linter.unusedVariables false
section
variable {P:Program}{n:Nat}{B:Base}{ks:Ks}{sg:Sg}{d:Option Tmp}{ty:TypeId}{pos:String}{aft:Array Edge}{g:Option (Nat×Bool)}
theorem run_callB {f:FuncId}{x:Operand}{pre caps:List Value}{xs:List Operand}{vs:List Value}{ats:Array TypeId}{a:Act}(w:World)(ha:Fr n ks a)(hx:ev ks x=some (.func (.func f) pre.toArray caps.toArray))(hxs:evs ks xs=some vs)(hc:∀(args:Array Value) (w:World),(callFunc f args).run P w= .ok (.enter f args) w):
 (execOp a.eval ⟨d,.call {callee:= .value x,args:=xs.toArray,argTypes:=ats},ty,pos,aft,g⟩).run P w= .ok (.enter f (pre++vs++caps).toArray) w:=by
 have hm:=ha.evs hxs
 have h0:=ha.ev hx
 simp only[execOp,resolve,h0,Deferred.ofValue,Sem.run_bind,Sem.run_pure,Result.andThen_ok,invoke,List.map_toArray,hm]
 simp[hc]
theorem Eff.callBV {v:Value}{f:FuncId}{x:Operand}{pre caps:List Value}{xs:List Operand}{vs:List Value}{ats:Array TypeId}(hx:ev ks x=some (.func (.func f) pre.toArray caps.toArray))(hxs:evs ks xs=some vs)(hc:∀(args:Array Value) (w:World),(callFunc f args).run P w= .ok (.enter f args) w)
 (h:∀w,Hp B sg w→Calls P f (pre++vs++caps).toArray w (fun e w'=>e= .returned v∧Below w.heap.size w w')):
 Eff P n B ⟨d,.call {callee:= .value x,args:=xs.toArray,argTypes:=ats},ty,pos,aft,g⟩ ks sg (α:=Unit) (fun _=>True) (fun _=>v) (fun _=>sg):=fun a w K Q ha hw hk=>by
 unfold Oper.wp
 rw[run_callB w ha hx hxs hc]
 exact(h w hw).mono fun e w' ⟨he,hb⟩=>by subst he;exact hk () w' trivial (hw.call_ro hb)
end
end Go.Proofs.YtpjmdbifacijoaaGreatDoor.V
namespace Go.Proofs.YtpjmdbifacijoaaGreatDoor
open Go Go.RowKit V
set_option linter.unusedVariables false
set_option maxRecDepth 100000
namespace G
open V (str byC ownV ownG ownS ownOk)
instance:Cal Tryz.prog 376:=⟨Tryz.call376⟩
theorem draft_le (c:Int):(draftL c).length≤64:=by
 by_cases h:spanF c=0
 ·unfold draftL;rw[if_pos h];simp
 ·rw[draftL_len h];omega
theorem own_not {B:V.Base}{sg r:V.Sg}{w:World}{l:List UInt8}{y:V.OwnO}{p:Option Addr}{c:Nat}{x:DvR}{v:Dev}(hw:Hp B sg w)(hv:ownV l.length y= .slice p l.length c)(hp:Pick (ownG 5 (byC l) y::vS x v) sg r):∀b o,p=some ⟨b,o,none⟩→b∉V.ids (vS x v):=by
 intro b o hb
 rcases y with _|⟨g,r2,cap⟩
 ·have h8:ownV l.length none= .slice none 0 0:=rfl
  rw[h8] at hv
  injection hv with h9
  rw[hb] at h9;cases h9
 ·have h8:ownV l.length (some (g,r2,cap))= .slice (some ⟨g,0,none⟩) l.length cap:=rfl
  rw[h8] at hv
  injection hv with h9
  rw[hb] at h9
  simp only[Option.some.injEq,Addr.mk.injEq] at h9
  rw[← h9.1]
  exact not_in (hw.pick hp) (show Pick (vS x v) _ _ from(by repeat(first|exact .nil|apply Pick.cons|exact .here|apply Ext.there))) (show InS (g,.cells (byC l++r2).toArray 5 (0,0)) _ from(by repeat(first|exact .here|exact .inner .here|exact .inner (.inner .here)|refine .there ?_)))
instance:Cal Tryz.prog 123:=⟨Tryz.call123⟩
instance:Cal Tryz.prog 158:=⟨Tryz.call158⟩
instance:Cal Tryz.prog 159:=⟨Tryz.call159⟩
instance:Cal Tryz.prog 205:=⟨Tryz.call205⟩
theorem store_v (x:DvR)(v:Dev)(line at_:Int)(bs:List UInt8)(p:Option Addr)(cp:Nat)(hl:bs.length≤100000)(w:World)(hs:Sat (vS x v) w)(hp:V.slAt w p 1 byE bs)(hpd:0<bs.length→∀b o,p=some ⟨b,o,none⟩→b∉V.ids (vS x v)):Calls Tryz.prog 161 [.pointer (some ⟨x.db,0,none⟩),.int .i64 line,.int .i64 at_,.slice p bs.length cp].toArray w fun e w'=>∃_u:Unit,True∧e= .returned (.int .i64 (er2 (thB v.D.length line at_ bs.length)))∧Hp ⟨w,V.ids (vS x v)⟩ (vS x (v.store line at_ bs)) w':=
 store_gc x v.D v.k line at_ bs p cp hl w hs hp hpd
end G
end Go.Proofs.YtpjmdbifacijoaaGreatDoor
namespace Go.Proofs.YtpjmdbifacijoaaGreatDoor.V
open Go Go.RowKit
open Go.Sort (putRow putCells mapBlock grow Holds ahead flatK putRowK HoldsK)
open Go.Proofs (sortWorldK)
set_option linter.unusedVariables false
theorem putCells_flat {α:Type}{enc:α→List Value}{k:Nat}(hk:∀x,(enc x).length=k)(l l':List α)(hl:l'.length=l.length)(rest:List Value):putCells id 0 (l'.flatMap enc).toArray (l.flatMap enc++rest).toArray=(l'.flatMap enc++rest).toArray:=by
 have h1:=flatMap_len hk l
 have h2:=flatMap_len hk l'
 have h3:(l'.flatMap enc).length=(l.flatMap enc).length:=by rw[h1,h2,hl]
 apply Array.ext
 ·simp only[putCells,Array.size_mapIdx,List.size_toArray,List.length_append];omega
 ·intro j hj1 hj2
  simp only[putCells,Array.getElem_mapIdx,Nat.zero_le,true_and,Nat.zero_add,Nat.sub_zero,List.size_toArray,id_eq,List.getElem_toArray]
  split
  ·rename_i h
   rw[List.getElem_append_left h,getElem!_pos _ _ (by simpa using h)]
   simp
  ·rename_i h
   rw[List.getElem_append_right (by omega),List.getElem_append_right (by omega)]
   congr 1;omega
section
variable {α:Type}[Inhabited α]
theorem flatK_eq {enc:α→List Value}{k:Nat}(hk:∀x,(enc x).length=k)(l:List α):flatK enc k l.toArray=(l.flatMap enc).toArray:=by
 apply Array.ext
 ·rw[Go.Sort.size_flatK];simp only[List.size_toArray];rw[flatMap_len hk]
 ·intro j h1 h2
  rw[Go.Sort.size_flatK,List.size_toArray] at h1
  have h3:=Go.Sort.get_flatK enc k l.toArray j (by simpa using h1)
  rw[getElem!_pos _ j (by rw[Go.Sort.size_flatK];simpa using h1)] at h3
  rw[h3]
  have h4:=flatMap_get hk l h1
  rw[List.getElem?_eq_getElem (by rw[flatMap_len hk];exact h1)] at h4
  have h5:=(List.getElem?_eq_some_iff.1 h4.symm)
  obtain⟨h6,h7⟩:=h5
  have e1:(l.toArray[j/k]! :α)=l[j/k]! :=by simp
  rw[e1,getElem!_pos (enc (l[j/k]!)) _ h6,h7]
  simp
theorem holdsK_own {enc:α→List Value}{k T g:Nat}(hk:∀x,(enc x).length=k)(l:List α)(rest:List Value){w:World}(h:w.heap[g]? =some (.cells (l.flatMap enc++rest).toArray T (0,0))):HoldsK enc k w g 0 l.toArray:=by
 unfold HoldsK
 rw[flatK_eq hk]
 intro j hj
 simp only[List.size_toArray] at hj
 refine⟨?_,frozen_of h⟩
 refine cell_of_block h ?_
 rw[Nat.zero_add,List.getElem?_append_left hj,List.getElem?_eq_getElem hj]
 rw[getElem!_pos _ _ (by simpa using hj)]
 simp
theorem sorted_hp {enc:α→List Value}{k T g m:Nat}(hk:∀x,(enc x).length=k)(l l':List α)(hl:l'.length=l.length)(rest:List Value){w:World}(os:Array Obj)(h:w.heap[g]? =some (.cells (l.flatMap enc++rest).toArray T (0,0))):
 Hp ⟨w,[g]⟩ [[(g,.cells (l'.flatMap enc++rest).toArray T (0,0))]] (sortWorldK enc k w g 0 m l'.toArray os):=by
 have hlt:g<w.heap.size:=lt_of_some h
 have hheap:(sortWorldK enc k w g 0 m l'.toArray os).heap=(w.heap.modify g (Go.Sort.onCells (putCells id 0 (l'.flatMap enc).toArray)))++os:=by
  unfold sortWorldK putRowK putRow mapBlock grow
  rw[flatK_eq hk];rfl
 have hg:(sortWorldK enc k w g 0 m l'.toArray os).heap[g]? =some (.cells (l'.flatMap enc++rest).toArray T (0,0)):=by
  rw[hheap,Array.getElem?_append_left (by simpa using hlt),Array.getElem?_modify,if_pos rfl,h]
  simp only[Option.map_some,Go.Sort.onCells]
  rw[putCells_flat hk l l' hl]
 refine⟨rfl,rfl,rfl,by rw[hheap];simp,fun b hb hf=>?_,fun p hp=>?_,fun p hp=>?_,by simp⟩
 ·have hne:b≠g:=fun e=>hf (by simp[e])
  rw[hheap,Array.getElem?_append_left (by simpa using hb),Array.getElem?_modify,if_neg (fun e=>hne e.symm)]
 ·simp at hp;subst hp;exact hg
 ·simp at hp;subst hp;exact .inr (by simp)
end
theorem hp_of_below {e sz n:Nat}{v:Value}{xs:List Value}{w w':World}(hb:Below w.heap.size w w')(hr:w'.ownsRow w.heap.size e sz v n xs):∃o,v=ownV n o∧ownOk sz n xs o∧Hp ⟨w,[]⟩ [ownG e xs o] w':=by
 have h0:Hp ⟨w,[]⟩ [] w':=⟨hb.os,hb.tape,hb.output,hb.size,fun b h1 _=>hb.block b h1,by simp,by simp,by simp⟩
 obtain⟨hlen,⟨rfl,h⟩|⟨g,cap,cur,rfl,hbg,hg,hnc,hcm,hcs,htake⟩⟩:=hr
 ·subst h
  have:xs=[]:=List.length_eq_zero_iff.1 (by omega)
  subst this
  exact⟨none,rfl,⟨by simp,rfl⟩,h0.perm (.refl _)⟩
 ·have hcur:cur=(xs++cur.toList.drop (n*sz)).toArray:=by rw[← htake,List.take_append_drop]
  refine⟨some (g,cur.toList.drop (n*sz),cap),rfl,⟨hlen,?_⟩,?_⟩
  ·have hle:n*sz≤cap*sz:=Nat.mul_le_mul_right _ hnc
   simp only[List.length_drop,Array.length_toList,hcs,hlen]
   omega
  ·have h2:=h0.cons (o:= .cells (xs++cur.toList.drop (n*sz)).toArray e (0,0)) (y:=g) (by rw[← hcur];exact hg) (.inl hbg) (by simp[ids])
   exact h2.perm (by simp[ownG,ownS])
end Go.Proofs.YtpjmdbifacijoaaGreatDoor.V
namespace Go.Proofs
open Go.Shelf
def Tryz.lays106_ren:Go.Shelf.Ren:=⟨fun|106=>182|213=>229|265=>275|n=>n,fun|9=>9|3=>3|n=>n,fun|n=>n⟩
theorem Tryz.lays106:Go.Proofs.Lays.n106 Tryz.prog Tryz.lays106_ren:={
 mixed:=by kernel_rfl
 f106:=Tryz.func182.trans (congrArg some (by kernel_rfl))
 f213:=Tryz.func229.trans (congrArg some (by kernel_rfl))
 f265:=Tryz.func275.trans (congrArg some (by kernel_rfl))
 t3:=Tryz.underlying3
 a3:=Tryz.isAgg3
 z3:=Tryz.sizeOf3
 v3:=Tryz.zeroValue3
 t9:=Tryz.underlying9
 a9:=Tryz.isAgg9
 z9:=Tryz.sizeOf9
 v9:=Tryz.zeroValue9}
open Go.RowKit in
theorem Tryz.strings_Compare (a b:ByteArray)(w:World):
 Calls Tryz.prog 182 #[.string a,.string b] w fun e w'=>e= .returned (.int .i64 (Lib.compareBytes a.data.toList b.data.toList))∧w'=w:=Any.strings_Compare Tryz.lays106 a b w
def Tryz.sortF180_ren:Go.Shelf.Ren:=⟨fun|6=>180|15=>228|14=>227|28=>274|29=>188|20=>266|21=>267|22=>268|23=>269|24=>270|25=>271|26=>272|27=>273|46=>330|47=>331|48=>332|49=>333|50=>334|57=>394|n=>n,fun|22=>225|24=>94|25=>306|3=>3|39=>52|0=>0|53=>168|55=>92|4=>4|46=>416|45=>415|50=>420|5=>5|9=>9|66=>446|70=>449|76=>495|77=>496|n=>n,fun|n=>n⟩
theorem Tryz.sortF180:Go.Proofs.SlLaysF0.n6 Tryz.prog Tryz.sortF180_ren:={
 mixed:=by kernel_rfl
 f6:=⟨Tryz.f180.name,by decide,Tryz.func180.trans (congrArg some (by kernel_rfl))⟩
 f14:=⟨Tryz.f227.name,by decide,Tryz.func227.trans (congrArg some (by kernel_rfl))⟩
 f15:=Tryz.func228.trans (congrArg some (by kernel_rfl))
 f20:=⟨Tryz.f266.name,by decide,Tryz.func266.trans (congrArg some (by kernel_rfl))⟩
 f21:=⟨Tryz.f267.name,by decide,Tryz.func267.trans (congrArg some (by kernel_rfl))⟩
 f22:=⟨Tryz.f268.name,by decide,Tryz.func268.trans (congrArg some (by kernel_rfl))⟩
 f23:=⟨Tryz.f269.name,by decide,Tryz.func269.trans (congrArg some (by kernel_rfl))⟩
 f24:=⟨Tryz.f270.name,by decide,Tryz.func270.trans (congrArg some (by kernel_rfl))⟩
 f25:=⟨Tryz.f271.name,by decide,Tryz.func271.trans (congrArg some (by kernel_rfl))⟩
 f26:=⟨Tryz.f272.name,by decide,Tryz.func272.trans (congrArg some (by kernel_rfl))⟩
 f27:=⟨Tryz.f273.name,by decide,Tryz.func273.trans (congrArg some (by kernel_rfl))⟩
 f28:=Tryz.func274.trans (congrArg some (by kernel_rfl))
 f29:=Tryz.func188.trans (congrArg some (by kernel_rfl))
 f46:=⟨Tryz.f330.name,by decide,Tryz.func330.trans (congrArg some (by kernel_rfl))⟩
 f47:=Tryz.func331.trans (congrArg some (by kernel_rfl))
 f48:=Tryz.func332.trans (congrArg some (by kernel_rfl))
 f49:=⟨Tryz.f333.name,by decide,Tryz.func333.trans (congrArg some (by kernel_rfl))⟩
 f50:=⟨Tryz.f334.name,by decide,Tryz.func334.trans (congrArg some (by kernel_rfl))⟩
 f57:=⟨Tryz.f394.name,by decide,Tryz.func394.trans (congrArg some (by kernel_rfl))⟩
 t0:=Tryz.underlying0
 a0:=Tryz.isAgg0
 z0:=Tryz.sizeOf0
 v0:=Tryz.zeroValue0
 t3:=Tryz.underlying3
 a3:=Tryz.isAgg3
 z3:=Tryz.sizeOf3
 v3:=Tryz.zeroValue3
 t4:=Tryz.underlying4
 a4:=Tryz.isAgg4
 z4:=Tryz.sizeOf4
 v4:=Tryz.zeroValue4
 t5:=Tryz.underlying5
 a5:=Tryz.isAgg5
 z5:=Tryz.sizeOf5
 v5:=Tryz.zeroValue5
 t9:=Tryz.underlying9
 a9:=Tryz.isAgg9
 z9:=Tryz.sizeOf9
 v9:=Tryz.zeroValue9
 t22:=Tryz.underlying225
 a22:=Tryz.isAgg225
 z22:=Tryz.sizeOf225
 v22:=Tryz.zeroValue225
 t25:=Tryz.underlying306
 a25:=Tryz.isAgg306
 z25:=Tryz.sizeOf306
 v25:=Tryz.zeroValue306
 t39:=Tryz.underlying52
 a39:=Tryz.isAgg52
 z39:=Tryz.sizeOf52
 v39:=Tryz.zeroValue52
 t45:=Tryz.underlying415
 a45:=Tryz.isAgg415
 z45:=Tryz.sizeOf415
 v45:=Tryz.zeroValue415
 t46:=Tryz.underlying416
 a46:=Tryz.isAgg416
 z46:=Tryz.sizeOf416
 v46:=Tryz.zeroValue416
 t50:=Tryz.underlying420
 a50:=Tryz.isAgg420
 z50:=Tryz.sizeOf420
 v50:=Tryz.zeroValue420
 t53:=Tryz.underlying168
 a53:=Tryz.isAgg168
 z53:=Tryz.sizeOf168
 v53:=Tryz.zeroValue168
 t55:=Tryz.underlying92
 a55:=Tryz.isAgg92
 z55:=Tryz.sizeOf92
 v55:=Tryz.zeroValue92
 t66:=Tryz.underlying446
 a66:=Tryz.isAgg446
 z66:=Tryz.sizeOf446
 v66:=Tryz.zeroValue446
 t70:=Tryz.underlying449
 a70:=Tryz.isAgg449
 z70:=Tryz.sizeOf449
 v70:=Tryz.zeroValue449
 t76:=Tryz.underlying495
 a76:=Tryz.isAgg495
 z76:=Tryz.sizeOf495
 v76:=Tryz.zeroValue495
 t77:=Tryz.underlying496
 a77:=Tryz.isAgg496
 z77:=Tryz.sizeOf496
 v77:=Tryz.zeroValue496}
end Go.Proofs
namespace Go.Proofs.YtpjmdbifacijoaaGreatDoor
open Go Go.RowKit V
set_option linter.unusedVariables false
set_option maxRecDepth 100000
namespace G
open V (str byC ownV ownG ownS ownOk)
instance:Cal Tryz.prog 180:=⟨Tryz.call180⟩
instance:Inhabited Lk:=⟨lk0⟩
theorem cmpB_lt:∀a b:List UInt8,Go.Lib.compareBytes a b<0↔a<b
 |[],[]=>by simp[Go.Lib.compareBytes]
 |[],_::_=>by simp[Go.Lib.compareBytes]
 |_::_,[]=>by simp[Go.Lib.compareBytes]
 |a::x,b::y=>by
  have ih:=cmpB_lt x y
  unfold Go.Lib.compareBytes
  rw[List.cons_lt_cons_iff]
  by_cases h1:a<b
  ·simp[h1]
  ·by_cases h2:b<a
   ·have h3:a≠b:=fun e=>by subst e;exact UInt8.lt_irrefl a h2
    simp[h1,h2,h3]
   ·have h3:a=b:=UInt8.toNat_inj.1 (by rw[UInt8.lt_iff_toNat_lt] at h1 h2;omega)
    subst h3
    simp[h1,ih]
def cfL (x y:Lk):Int:=Go.Lib.compareBytes (byK x.key).data.toList (byK y.key).data.toList
theorem lt_cfL (x y:Lk):Go.Proofs.ltOf cfL x y=decide (x.key<y.key):=by
 unfold Go.Proofs.ltOf
 exact decide_eq_decide.2 (cmpB_lt x.key y.key)
theorem swoL:Go.Sort.SWO (Go.Proofs.ltOf cfL) where
 irrefl x:=by rw[lt_cfL];simp
 trans x y z h1 h2:=by
  rw[lt_cfL] at*
  simp only[decide_eq_true_eq] at*
  exact List.lt_trans h1 h2
 ntrans x y z h1 h2:=by
  rw[lt_cfL] at*
  simp only[decide_eq_false_iff_not,List.not_lt] at*
  exact List.le_trans h2 h1
set_option maxHeartbeats 1000000 in
theorem cmp77_c (x y:Lk)(W:World):Calls Tryz.prog 181 #[.agg #[.string (byK x.key),.int .u64 x.id,.int .u64 x.ver,.int .i64 x.line,.int .i64 x.cls],.agg #[.string (byK y.key),.int .u64 y.id,.int .u64 y.ver,.int .i64 y.line,.int .i64 y.cls]] W fun e w'=>e= .returned (.int .i64 (cfL x y))∧∃q os',w'=Go.Sort.grow (W.drewN q) os':=by
 have hcon:=fun W'=>Tryz.strings_Compare (byK x.key) (byK y.key) W'
 unfold cfL
 generalize Go.Lib.compareBytes (byK x.key).data.toList (byK y.key).data.toList=r at hcon⊢
 go_enter Tryz.func181,Tryz.ntmps181
 go_wp2_with (go_at_call 182;refine(hcon _).mono ?_;rintro e w' ⟨rfl,rfl⟩)
 go_ret
 exact⟨rfl,0,_,by rw[Go.Sort.alloc_eq_grow,Go.Sort.alloc_eq_grow,Go.Sort.grow_grow];rfl⟩
def UpL (L:List Lk):Prop:=L.Pairwise fun a b=>¬b.key<a.key
theorem upL_of {L:List Lk}(h:Go.Sort.SortedIn (Go.Proofs.ltOf cfL) 0 L.length L.toArray):UpL L:=by
 refine List.pairwise_iff_getElem.2 fun i j hi hj hij=>?_
 have:=h i j (Nat.zero_le _) hij hj
 rw[lt_cfL] at this
 simp only[decide_eq_false_iff_not] at this
 have e1:(L.toArray[i]! :Lk)=L[i]:=by simp[hi]
 have e2:(L.toArray[j]! :Lk)=L[j]:=by simp[hj]
 rwa [e1,e2] at this
theorem sortL_c (o:V.OwnO)(L:List Lk)(hok:ownOk 5 L.length (L.flatMap lkC) o)(hl:L.length≤100000)(w:World)(hs:Sat [ownG 94 (L.flatMap lkC) o] w):Calls Tryz.prog 180 [ownV L.length o,.func (.func 181) #[] #[]].toArray w fun e w'=>∃L':List Lk,(L'.Perm L∧UpL L')∧e= .returned (.tuple #[])∧Hp ⟨w,ids [ownG 94 (L.flatMap lkC) o]⟩ [ownG 94 (L'.flatMap lkC) o] w':=by
 rcases o with _|⟨g,rest,cap⟩
 ·have h0:L.length=0:=hok.2
  have:L=[]:=List.length_eq_zero_iff.1 h0
  subst this
  refine(AnyF.slices_SortFunc_none Tryz.sortF180 none 0 (.func (.func 181) #[] #[]) w).mono fun e w' ⟨h1,h2⟩=>⟨[],⟨.refl _,.nil⟩,h1,?_⟩
  subst h2
  exact⟨rfl,rfl,rfl,Nat.le_refl _,fun _ _ _=>rfl,by simp[ownG,V.ownS],by simp[ownG,V.ownS],by simp[ownG,V.ownS]⟩
 ·have hown:w.heap[g]? =some (.cells (L.flatMap lkC++rest).toArray 94 (0,0)):=hs.own (g,.cells (L.flatMap lkC++rest).toArray 94 (0,0)) (by simp[ownG,V.ownS])
  have eg:∀args w,(callFunc 181 args).run Tryz.prog w= .ok (.enter 181 args) w:=enters_of Tryz.func181 (by kernel_rfl) rfl
  have hcon:=AnyQ.slices_SortFunc Tryz.sortF180 5 Tryz.isAgg94 Tryz.sizeOf94 lkC (fun _=>rfl) (fun x v hv=>by simp[lkC] at hv;rcases hv with rfl|rfl|rfl|rfl|rfl<;>rfl) cfL swoL 181 #[] g 0 cap L.toArray w eg (fun _ _ _ _ x y=>cmp77_c x y _) (V.holdsK_own (enc:=lkC) (k:=5) (fun _=>rfl) L rest hown) (V.lt_of_some hown) (by simp;omega)
  change Calls Tryz.prog 180 _ _ _ at hcon
  refine hcon.mono fun e w' ⟨h1,d',m,os,hp,hso,hw⟩=>?_
  obtain⟨h2,_,h4⟩:=hp
  simp only[List.size_toArray] at h2 h4 hso
  have h5:d'.toList.length=L.length:=by simpa using h2
  have h6:d'.toList.Perm L:=by
   have e1:d'.extract 0 L.length=d':=by rw[← h2];simp
   have e2:L.toArray.extract 0 L.length=L.toArray:=by simp
   rw[e1,e2] at h4
   simpa using h4
  refine⟨d'.toList,⟨h6,upL_of (by rw[h5];simpa using hso)⟩,h1,?_⟩
  subst hw
  have h7:=V.sorted_hp (enc:=lkC) (k:=5) (T:=94) (g:=g) (m:=m) (fun _=>rfl) L d'.toList h5 rest os hown
  simp only[Array.toArray_toList] at h7
  simpa[ownG,V.ownS,ids] using h7
def tLinks (Tz:Tbl):List Lk:=Tz.flatMap fun p=>p.1.map (·.2)
def tStp (Tz:Tbl):Prop:=∀p∈Tz,V.Stp (me p.1) p.2
def unW (v:Value):Lk:=match v with
 | .agg a=>match a.toList with
  |[.string k,.int _ i,.int _ v,.int _ l,.int _ c]=>⟨k.data.toList,i,v,l,c⟩
  |_=>lk0
 |_=>lk0
theorem unW_lk (x:Lk):unW (lkW x)=x:=rfl
theorem me_un (E:LE):(me E).map (fun e=>unW e.2.2)=E.map (·.2):=by
 unfold me
 rw[List.map_map]
 exact List.map_congr_left fun e _=>unW_lk e.2
theorem me_app (E F:LE):me (E++F)=me E++me F:=by unfold me;exact List.map_append
theorem tLinks_take {Tz:Tbl}{k:Nat}{p:LE×Nat}(h:Tz[k]? =some p):tLinks (Tz.take (k+1))=tLinks (Tz.take k)++p.1.map (·.2):=by
 unfold tLinks
 rw[List.take_add_one,h,Option.toList_some,List.flatMap_append,List.flatMap_singleton]
theorem tLinks_le {Tz:Tbl}(k:Nat):(tLinks (Tz.take k)).length≤(tLinks Tz).length:=by
 have e:tLinks Tz=tLinks (Tz.take k)++tLinks (Tz.drop k):=by
  unfold tLinks
  rw[← List.flatMap_append,List.take_append_drop]
 rw[e,List.length_append];omega
theorem tbC_len (ms:List Nat):(tbC ms).length=ms.length:=by unfold tbC;rw[List.length_map]
theorem tbC_get {ms:List Nat}{i m:Nat}(h:ms[i]? =some m):(tbC ms)[i]? =some (.map (some m)):=by
 have h8:=tbC_at h
 simpa using h8
theorem all_g (tb:Nat)(ms:List Nat)(Tz:Tbl)(hT:tbOk ms Tz)(hst:tStp Tz)(hn:(tLinks Tz).length≤1000)(w:World)(hs:Sat (tbS tb ms Tz) w):Calls Tryz.prog 134 [.pointer (some ⟨tb,0,none⟩)].toArray w fun e w'=>∃y:V.OwnO×List Lk,(y.2.Perm (tLinks Tz)∧UpL y.2∧ownOk 5 y.2.length (y.2.flatMap lkC) y.1)∧e= .returned (ownV y.2.length y.1)∧Hp ⟨w,V.ids ((tbS tb ms Tz))⟩ (ownG 94 (y.2.flatMap lkC) y.1::tbS tb ms Tz) w':=by
 refine V.calls (tbS tb ms Tz) Tryz.func134 rfl Tryz.ntmps134 (Nat.le_of_ble_eq_true rfl) hs<|Sq<|Rg<|Lv Av<|Nl<|Ps<|Sq<|Rg<|Lv Av<|Nl<|Ps<|Sq<|Sq<|Rg<|Lv Mv<|Lv EP<|Nl<|Ps<|Cf<|Sk<|Ps<|Sq<|Sq<|Rg<|Lv Mv<|Lv Nz<|Lv (Fa 0 268)<|Lv (La (tbC ms) (r:=[]) (hl:=by simp) (hs:=by rw[tbC_len,hT.1];exact Tryz.sizeOf268))<|Lv Mv<|Nl<|Ps<|Bk ?_
 refine V.CW.perm (sg':=ownG 94 ([].flatMap lkC) none::tbS tb ms Tz) ?_ (by simp[V.ownG_none])
 refine loopA (γ:=Nat×V.OwnO×List Lk) (fun k=>[(3,ownV k.2.2.length k.2.1),(14,.agg (tbC ms).toArray),(15,.int .i64 (k.1:Nat))]) (fun k=>ownG 94 (k.2.2.flatMap lkC) k.2.1::tbS tb ms Tz) (fun k=>k.1≤8∧k.2.2.Perm (tLinks (Tz.take k.1))∧ownOk 5 k.2.2.length (k.2.2.flatMap lkC) k.2.1) (fun k=>8-k.1) ((0,none,[])) ⟨Nat.zero_le _,by simp[tLinks],⟨rfl,rfl⟩⟩ fun k=>?_
 rintro⟨hk1,hk2,hk3⟩
 refine Sq<|Rg<|Lv Cm<|Nl<|Ps<|Sq ?_
 refine CW.cond rfl (fun h16=>?_) (fun h16=>?_)
 ·replace h16:=bT h16
  have hbk:k.1<8:=by omega
  obtain⟨m,hm⟩:∃m,ms[k.1]? =some m:=⟨ms[k.1]'(by rw[hT.1];omega),by simp⟩
  obtain⟨p,hp⟩:∃p,Tz[k.1]? =some p:=⟨Tz[k.1]'(by rw[hT.2];omega),by simp⟩
  have hsp:=hst p (List.mem_of_getElem? hp)
  have htk:=tLinks_take hp
  have htl:=tLinks_le (Tz:=Tz) (k.1+1)
  refine Sk<|Ps<|Sq<|Bk<|Sq<|Rg<|Lv (Val.indexArr (i:=k.1) rfl rfl Tryz.underlying268 Tryz.sizeOf267 Tryz.isAgg267 (by omega) (tbC_get hm))<|Lv Av<|Nl<|Ps<|Sq<|Rg<|Lv Mv<|Le (Eff.range (E:=me p.1) (c:=p.2) rfl Tryz.underlying267 (by repeat(first|exact InS.nth (tbM_at hm hp)|refine .there ?_))) fun b19 _=>Nl<|Ps<|Bk<|loopA (γ:=V.OwnO×List Lk×LE) (fun j=>[(3,ownV j.2.1.length j.1),(14,.agg (tbC ms).toArray),(15,.int .i64 (k.1:Nat)),(19,.pointer (some ⟨b19,0,none⟩))]) (fun j=>ownG 94 (j.2.1.flatMap lkC) j.1::[(b19,V.itO m p.2 (me j.2.2))]::tbS tb ms Tz) (fun j=>V.Vis (me p.1) (me j.2.2)∧j.2.1=k.2.2++j.2.2.map (·.2)∧ownOk 5 j.2.1.length (j.2.1.flatMap lkC) j.1) (fun j=>(me p.1).length-(me j.2.2).length) ((k.2.1,k.2.2,[])) ⟨V.Vis.nil _,by simp,hk3⟩ fun j=>?_
  rintro⟨hv,hjv,hj3⟩
  have hjl:j.2.1.length≤2000:=by
   have h1:=congrArg List.length hjv
   have h2:=hk2.length_eq
   have h3:=tLinks_le (Tz:=Tz) k.1
   have h4:=hv.le
   have h5:=congrArg List.length htk
   simp only[me,List.length_map,List.length_append] at h1 h4 h5
   omega
  refine Sq<|Rg<|Le (Eff.next (E:=me p.1) (D:=me j.2.2) rfl (by repeat(first|exact InS.nth (tbM_at hm hp)|refine .there ?_)) hsp (fun e=>(by repeat(first|exact .here|exact .inner .here|exact .inner (.inner .here)|apply Upd.there)))) fun oe he=>?_
  rcases oe with _|e
  ·dsimp only at he⊢
   refine Lv Ex<|Nl<|Ps<|Sq<|Cf<|Xt<|Te<|Te<|Bh<|Bn<|Ps<|Rg<|Lv Ar<|Lv Mv<|Nl ?_
   exact roundA ((k.1+1,j.1,j.2.1)) ⟨by simp only;omega,by simp only;rw[htk,hjv];refine hk2.append ?_;have h8:=(hv.perm hsp.nd he).map fun e=>unW e.2.2;rw[me_un,me_un] at h8;exact h8,hj3⟩ (by simp only;omega)
  ·dsimp only at he⊢
   obtain⟨x,hx1,hx2⟩:=List.mem_map.1 (show e∈List.map _ p.1 from he.1)
   have hvl:=hv.lt he.1 he.2
   subst hx2
   refine Lv Ex<|Nl<|Ps<|Sq<|Ct<|Sk<|Ps<|Bk<|Sq<|Rg<|Lv (Val.entry rfl (by repeat(first|exact .here|exact .inner .here|exact .inner (.inner .here)|refine .there ?_)) (by repeat(first|exact InS.nth (tbM_at hm hp)|refine .there ?_)) he.1 hsp.nd)<|Lv Ex<|LW.re 23 (.agg (lkC x.2).toArray) rfl (by rfl)<|Le AA fun b7 _=>LeN StW fun _ _=>Nl<|Ps<|Rg<|Lv Mv<|Lv Lw<|Le (Eff.buildSlice (rfl) [_,_,_,_,_] Tryz.underlying225 Tryz.sizeOf94 (by exact Tryz.zeroValue94) rfl rfl rfl rfl (by rfl)) fun b26 _=>Le (Eff.appendAny (lkC x.2) (sz:=5) (bytes:=48) (z:= .agg #[.string ⟨#[]⟩,.int .u64 0,.int .u64 0,.int .i64 0,.int .i64 0]) (xs:=j.2.1.flatMap lkC) (m0:=j.2.1.length) (o:=j.1) (m:=1) (pk:=[ownG 94 (j.2.1.flatMap lkC) (j.1)]) rfl rfl Tryz.underlying225 (by kernel_rfl) rfl (by omega) (by repeat(first|exact .nil|apply Pick.cons|exact .here|apply Ext.there)) (by simp) hj3 (by rfl) (fun hm0=>⟨b26,0,rfl,fun w hw=>V.range_of_block (o:=0) (cs:=lkC x.2) (r:=[]) (hw.own _ (show InS (b26,.cells (lkC x.2).toArray 94 (0,0)) _ from(by repeat(first|exact .here|exact .inner .here|exact .inner (.inner .here)|refine .there ?_))).mem) rfl⟩) (by rfl) (by omega) (by omega)) fun o2 ho2=>Lv Av<|Nl<|Bn ?_
   have e1:(j.2.1++[x.2]).flatMap lkC=j.2.1.flatMap lkC++lkC x.2:=by simp
   have e2:(j.2.1++[x.2]).length=j.2.1.length+1:=by simp
   have e3:me (j.2.2++[x])=me j.2.2++[(x.1,byK x.2.key,lkW x.2)]:=me_app _ _
   rw[← e1,← e2,← e3]
   exact roundA ((o2,j.2.1++[x.2],j.2.2++[x])) ⟨by rw[me_app];exact hv.snoc he.1 he.2,by simp only;rw[hjv];simp,by simpa using ho2⟩ (by simp only[me_app,List.length_append];simp only[me,List.map_cons,List.map_nil,List.length_singleton] at hvl⊢;omega)
 ·replace h16:=bF h16
  refine Xt<|Te<|Te<|Bh<|Ps<|Sq<|Rg<|Lv Mv<|Le (CM ([ownG 94 (k.2.2.flatMap lkC) k.2.1]) fun w hw hs0=>sortL_c k.2.1 k.2.2 hk3 (by have h2:=hk2.length_eq;have h3:=tLinks_le (Tz:=Tz) k.1;omega) w hs0) fun L2 hL2=>Nl<|Ps<|Sq<|Rg<|Lv Mv<|Lv Av<|Nl<|Ps<|Rt<|Rt1 fun w' hw=>?_
  have hk8:k.1=8:=by omega
  rw[hk8,List.take_of_length_le (by rw[hT.2];omega)] at hk2
  have hll:=hL2.1.length_eq
  refine⟨(k.2.1,L2),⟨hL2.1.trans hk2,hL2.2,⟨by rw[V.flatMap_len (k:=5) (fun _=>rfl)],?_⟩⟩,by rw[hll],?_⟩
  ·have h1:=hk3.2
   have h2:=hk3.1
   rw[V.flatMap_len (enc:=lkC) (k:=5) (fun _=>rfl) L2,hll]
   rw[h2] at h1
   exact h1
  ·exact hw.pick (by repeat(first|exact .nil|apply Pick.cons|exact .here|apply Ext.there))
theorem places122:∀w,((Array.mapM (fun(f:Field)=>do pure (f.offset,← sizeOf f.type)) (Tryz.prog.fieldsOf 122):Sem (Array (Nat×Nat)))).run Tryz.prog w= .ok [(0,1),(1,1)].toArray w:=by
 intro w;kernel_rfl
instance:Und Tryz.prog 23 (dOf Tryz.underlying23):=⟨Tryz.underlying23⟩
instance:Siz Tryz.prog 23 (kOf Tryz.sizeOf23):=⟨Tryz.sizeOf23⟩
instance:AgF Tryz.prog 23:=⟨Tryz.isAgg23⟩
instance:Und Tryz.prog 96 (dOf Tryz.underlying96):=⟨Tryz.underlying96⟩
instance:Siz Tryz.prog 96 (kOf Tryz.sizeOf96):=⟨Tryz.sizeOf96⟩
instance:AgF Tryz.prog 96:=⟨Tryz.isAgg96⟩
instance:Und Tryz.prog 119 (dOf Tryz.underlying119):=⟨Tryz.underlying119⟩
instance:Siz Tryz.prog 119 (kOf Tryz.sizeOf119):=⟨Tryz.sizeOf119⟩
instance:AgT Tryz.prog 119:=⟨Tryz.isAgg119⟩
instance:Zer Tryz.prog 119 (zOf Tryz.zeroValue119):=⟨Tryz.zeroValue119⟩
instance:Und Tryz.prog 122 (dOf Tryz.underlying122):=⟨Tryz.underlying122⟩
instance:Siz Tryz.prog 122 (kOf Tryz.sizeOf122):=⟨Tryz.sizeOf122⟩
instance:AgT Tryz.prog 122:=⟨Tryz.isAgg122⟩
instance:Zer Tryz.prog 122 (zOf Tryz.zeroValue122):=⟨Tryz.zeroValue122⟩
instance:Plc Tryz.prog 122 (fOf Tryz.underlying122) (lOf (P:=Tryz.prog) places122):=⟨places122,Tryz.underlying122⟩
instance:Cal Tryz.prog 46:=⟨Tryz.call46⟩
instance:Cal Tryz.prog 133:=⟨Tryz.call133⟩
instance:Cal Tryz.prog 134:=⟨Tryz.call134⟩
instance:Cal Tryz.prog 135:=⟨Tryz.call135⟩
instance:Cal Tryz.prog 136:=⟨Tryz.call136⟩
instance:Cal Tryz.prog 137:=⟨Tryz.call137⟩
instance:Cal Tryz.prog 184:=⟨Tryz.call184⟩
theorem atable_g (x:ArR)(s:ArS)(w:World)(ha:w.heap[x.a]? =some (.cells (arC x s).toArray 166 (0,0))):Calls Tryz.prog 133 [.pointer (some ⟨x.a,0,none⟩)].toArray w fun e w'=>e= .returned (.pointer (some ⟨x.tb,0,none⟩))∧Below w.heap.size w w':=by
 refine V.calls [] Tryz.func133 rfl Tryz.ntmps133 (Nat.le_of_ble_eq_true rfl) (V.sat_nil _)<|Sq<|Rg<|Lv Av<|Nl<|Ps<|Sq<|Sq<|Rg<|Lv Mv<|Lv EP<|Nl<|Ps<|Cf<|Sk<|Ps<|Sq<|Rg<|Lv Mv<|Lv Nz<|Lv (Fa 5 157)<|Lv (Val.loadO rfl Tryz.isAgg157 (V.lt_of_some ha) (by simp[ids]) (V.cell_of_block ha rfl))<|Lv Av<|Nl<|Ps<|Rt<|Rt1 ?_
 intro w' hw;exact⟨rfl,hw.below⟩
theorem aline_g (x:ArR)(s:ArS)(w:World)(ha:w.heap[x.a]? =some (.cells (arC x s).toArray 166 (0,0))):Calls Tryz.prog 136 [.pointer (some ⟨x.a,0,none⟩)].toArray w fun e w'=>e= .returned (.pointer (some ⟨x.fb,0,none⟩))∧Below w.heap.size w w':=by
 refine V.calls [] Tryz.func136 rfl Tryz.ntmps136 (Nat.le_of_ble_eq_true rfl) (V.sat_nil _)<|Sq<|Rg<|Lv Av<|Nl<|Ps<|Sq<|Sq<|Rg<|Lv Mv<|Lv EP<|Nl<|Ps<|Cf<|Sk<|Ps<|Sq<|Rg<|Lv Mv<|Lv Nz<|Lv (Fa 7 159)<|Lv (Val.loadO rfl Tryz.isAgg159 (V.lt_of_some ha) (by simp[ids]) (V.cell_of_block ha rfl))<|Lv Av<|Nl<|Ps<|Rt<|Rt1 ?_
 intro w' hw;exact⟨rfl,hw.below⟩
theorem apool_g (x:ArR)(s:ArS)(w:World)(ha:w.heap[x.a]? =some (.cells (arC x s).toArray 166 (0,0))):Calls Tryz.prog 149 [.pointer (some ⟨x.a,0,none⟩)].toArray w fun e w'=>e= .returned (.pointer (some ⟨x.pb,0,none⟩))∧Below w.heap.size w w':=by
 refine V.calls [] Tryz.func149 rfl Tryz.ntmps149 (Nat.le_of_ble_eq_true rfl) (V.sat_nil _)<|Sq<|Rg<|Lv Av<|Nl<|Ps<|Sq<|Sq<|Rg<|Lv Mv<|Lv EP<|Nl<|Ps<|Cf<|Sk<|Ps<|Sq<|Rg<|Lv Mv<|Lv Nz<|Lv (Fa 1 153)<|Lv (Val.loadO rfl Tryz.isAgg153 (V.lt_of_some ha) (by simp[ids]) (V.cell_of_block ha rfl))<|Lv Av<|Nl<|Ps<|Rt<|Rt1 ?_
 intro w' hw;exact⟨rfl,hw.below⟩
theorem adev_g (x:ArR)(s:ArS)(db:Nat)(w:World)(ha:w.heap[x.a]? =some (.cells (arC x s).toArray 166 (0,0)))(hd:w.heap[x.dv]? =some (.cells (avC db s).toArray 178 (0,0))):Calls Tryz.prog 46 [.pointer (some ⟨x.a,0,none⟩)].toArray w fun e w'=>e= .returned (.pointer (some ⟨db,0,none⟩))∧Below w.heap.size w w':=by
 refine V.calls [] Tryz.func46 rfl Tryz.ntmps46 (Nat.le_of_ble_eq_true rfl) (V.sat_nil _)<|Sq<|Rg<|Lv Av<|Nl<|Ps<|Sq<|Sq<|Rg<|Lv Mv<|Lv EP<|Lv Mv<|Lv Mv<|Lv Nz<|Lv (Fa 0 152)<|Lv (Val.loadO rfl Tryz.isAgg152 (V.lt_of_some ha) (by simp[ids]) (V.cell_of_block ha rfl))<|Lv EP<|Lv Pf<|Nl<|Ps<|Cf<|Sk<|Ps<|Sq<|Rg<|Lv Mv<|Lv Nz<|Lv (Fa 0 152)<|Lv (Val.loadO rfl Tryz.isAgg152 (V.lt_of_some ha) (by simp[ids]) (V.cell_of_block ha rfl))<|Lv Nz<|Lv (Fa 0 84)<|Lv (Val.loadO rfl Tryz.isAgg84 (V.lt_of_some hd) (by simp[ids]) (V.cell_of_block hd rfl))<|Lv Av<|Nl<|Ps<|Rt<|Rt1 ?_
 intro w' hw;exact⟨rfl,hw.below⟩
theorem abytes_g (x:ArR)(s:ArS)(xd:DvR)(D:List Ce)(k:Cnt)(line c:Int)(hl: -1000000≤line∧line≤1000000)(w:World)(hs:Sat ([(x.a,.cells (arC x s).toArray 166 (0,0))]::[(x.dv,.cells (avC xd.db s).toArray 178 (0,0))]::dvS xd D k) w):Calls Tryz.prog 184 [.pointer (some ⟨x.a,0,none⟩),.int .i64 line,.int .i64 c].toArray w fun e w'=>∃o:V.OwnO,ownOk 1 (linesL D line (spanF c)).length (byC (linesL D line (spanF c))) o∧e= .returned (ownV (linesL D line (spanF c)).length o)∧Hp ⟨w,V.ids (([(x.a,.cells (arC x s).toArray 166 (0,0))]::[(x.dv,.cells (avC xd.db s).toArray 178 (0,0))]::dvS xd D k))⟩ (ownG 5 (byC (linesL D line (spanF c))) o::([(x.a,.cells (arC x s).toArray 166 (0,0))]::[(x.dv,.cells (avC xd.db s).toArray 178 (0,0))]::dvS xd D k)) w':=by
 have hsp8:=span_le c
 refine V.calls ([(x.a,.cells (arC x s).toArray 166 (0,0))]::[(x.dv,.cells (avC xd.db s).toArray 178 (0,0))]::dvS xd D k) Tryz.func184 rfl Tryz.ntmps184 (Nat.le_of_ble_eq_true rfl) hs<|Sq<|Rg<|Lv Av<|Nl<|Ps<|Sq<|Rg<|Lv Av<|Nl<|Ps<|Sq<|Sq<|Rg<|Lv Mv<|Le (CV fun w hw=>span_c c w) fun _ _=>Lv Mv<|Nl<|Ps<|Bk ?_
 refine V.CW.perm (sg':=ownG 5 (byC (linesL D line 0)) none::([(x.a,.cells (arC x s).toArray 166 (0,0))]::[(x.dv,.cells (avC xd.db s).toArray 178 (0,0))]::dvS xd D k)) ?_ (.refl _)
 refine loopA (γ:=Nat×V.OwnO) (fun j=>[(0,.pointer (some ⟨x.a,0,none⟩)),(1,.int .i64 line),(7,ownV (linesL D line j.1).length j.2),(12,.int .i64 (spanF c:Nat)),(13,.int .i64 (j.1:Nat))]) (fun j=>ownG 5 (byC (linesL D line j.1)) j.2::([(x.a,.cells (arC x s).toArray 166 (0,0))]::[(x.dv,.cells (avC xd.db s).toArray 178 (0,0))]::dvS xd D k)) (fun j=>j.1≤spanF c∧ownOk 1 (linesL D line j.1).length (byC (linesL D line j.1)) j.2) (fun j=>spanF c-j.1) ((0,none)) ⟨Nat.zero_le _,rfl,rfl⟩ fun j=>?_
 rintro⟨hj1,hj2⟩
 have hjl:=linesL_le D line j.1
 refine Sq<|Rg<|Lv Cm<|Nl<|Ps<|Sq ?_
 refine CW.cond rfl (fun h14=>?_) (fun h14=>?_)
 ·replace h14:=bT h14
  refine Sk<|Ps<|Sq<|Bk<|Sq<|Rg<|Lv Mv<|Lv Av<|Nl<|Ps<|Sq<|Rg<|Lv Mv<|Le (CV fun w hw=>adev_g x s xd.db w hw.at hw.at) fun _ _=>Lv Mv<|Lv Mv<|Lv Ar<|Le (CM [] fun w hw hs0=>load_g xd D k (line+(j.1:Nat)) w (hw.sat.pick (ss:=dvS xd D k) (by repeat(first|exact .nil|apply Pick.cons|exact .here|apply Ext.there)))) fun o2 ho2=>?_
  obtain⟨p2,c2,hv2,hc2,hsrc,hsl2⟩:=own_src ho2
  have hn64:=nowL_le D (line+(j.1:Nat))
  refine Lv Mv<|Lv Ex<|LW.re 23 (.slice p2 (nowL D (line+(j.1:Nat))).length c2) rfl hv2<|Lv Ex<|Lv Av<|Lv Av<|Nl<|Ps<|Rg<|Lv Mv<|Lv Mv<|Le (Eff.appendAny (byC ((nowL D (line+(j.1:Nat))))) (sz:=1) (bytes:=1) (z:= .int .u8 0) (xs:=byC ((linesL D line j.1))) (m0:=(linesL D line j.1).length) (o:=j.2) (m:=(nowL D (line+(j.1:Nat))).length) (pk:=[ownG 5 (byC ((linesL D line j.1))) (j.2)]) rfl rfl Tryz.underlying30 (by kernel_rfl) rfl (by omega) (by repeat(first|exact .nil|apply Pick.cons|exact .here|apply Ext.there)) (by simp) hj2 (by rw[V.byC_len];omega) (fun hm0=>by obtain⟨bq,hbq,hrq⟩:=hsrc hm0;exact⟨bq,0,hbq,fun w hw=>hrq hw (by repeat(first|exact .nil|apply Pick.cons|exact .here|apply Ext.there))⟩) (V.byC_one _) (by omega) (by omega)) fun o3 ho3=>?_
  rw[← V.byC_append,← linesL_succ] at*
  refine Lv Av<|Nl<|Bn<|Ps<|Rg<|Lv Ar<|Lv Mv<|Nl ?_
  refine PQ.round ((j.1+1,o3)) ⟨by simp only;omega,by simp only;rw[show(linesL D line (j.1+1)).length=(linesL D line j.1).length+(nowL D (line+(j.1:Nat))).length by rw[linesL_succ,List.length_append]];exact ho3⟩ (by simp only;omega) (by exact⟨rfl,rfl,congrArg (fun z=>some (ownV z o3)) (by simp only;rw[linesL_succ,List.length_append]),rfl,rfl,trivial⟩) (by repeat(first|exact .nil|apply Pick.cons|exact .here|apply Ext.there))
 ·replace h14:=bF h14
  have hj9:j.1=spanF c:=by omega
  obtain⟨j1,o⟩:=j
  simp only at hj9 hj2
  subst hj9
  refine Xt<|Te<|Te<|Bh<|Ps<|Sq<|Rg<|Lv Mv<|Lv Av<|Nl<|Ps<|Rt<|Rt1 ?_
  intro w' hw;exact⟨o,hj2,rfl,hw.pick (by repeat(first|exact .nil|apply Pick.cons|exact .here|apply Ext.there))⟩
def valB (D:List Ce)(l:Lk):Blk:=(decF (linesL D l.line (spanF l.cls))).getD blk0
def valK (D:List Ce)(l:Lk)(kind:Int):Bool:=(decF (linesL D l.line (spanF l.cls))).isSome&&decide ((valB D l).kind=kind)&&decide ((valB D l).id=l.id)&&decide ((valB D l).ver=l.ver)&&decide ((valB D l).key=l.key)
theorem avalue_g (x:ArR)(s:ArS)(xd:DvR)(D:List Ce)(k:Cnt)(l:Lk)(kind:Int)(hl: -1000000≤l.line∧l.line≤1000000)(w:World)(hs:Sat ([(x.a,.cells (arC x s).toArray 166 (0,0))]::[(x.dv,.cells (avC xd.db s).toArray 178 (0,0))]::dvS xd D k) w):Calls Tryz.prog 135 [.pointer (some ⟨x.a,0,none⟩),.agg (lkC l).toArray,.int .i64 kind].toArray w fun e w'=>e= .returned (.tuple #[str (valB D l).val,.bool (valK D l kind)])∧Below w.heap.size w w':=by
 have hsp8:=span_le l.cls
 have hll8:=linesL_le D l.line (spanF l.cls)
 refine V.calls ([(x.a,.cells (arC x s).toArray 166 (0,0))]::[(x.dv,.cells (avC xd.db s).toArray 178 (0,0))]::dvS xd D k) Tryz.func135 rfl Tryz.ntmps135 (Nat.le_of_ble_eq_true rfl) hs<|Sq<|Rg<|Le XA fun b4 _=>Lv Av<|Lv Av<|Nl<|Ps<|Sq<|Rg<|Lv Mv<|Lv (Fa 3 3)<|Lv (Ld (v:= .int .i64 l.line))<|Lv (Fa 4 3)<|Lv (Ld (v:= .int .i64 l.cls))<|Le (CM (([(x.a,.cells (arC x s).toArray 166 (0,0))]::[(x.dv,.cells (avC xd.db s).toArray 178 (0,0))]::dvS xd D k)) fun w hw hs0=>abytes_g x s xd D k l.line l.cls hl w hs0) fun o ho=>?_
 obtain⟨pd,cd,hvd,hcd,_,hsd⟩:=own_src ho
 refine LW.re 16 (.slice pd (linesL D l.line (spanF l.cls)).length cd) rfl hvd<|Le (CV fun w hw=>decode_c (linesL D l.line (spanF l.cls)) pd cd (by omega) hcd w (hsd hw (by repeat(first|exact .nil|apply Pick.cons|exact .here|apply Ext.there)))) fun _ _=>Lv Mv<|Lv Ex<|LW.re 18 (.agg (blC (valB D l)).toArray) rfl (by rfl)<|Lv Ex<|Le AA fun b8 _=>LeN StW fun _ _=>Lv Av<|Nl<|Ps<|Sq<|Qt<|Qv (Fa 6 9)<|Qv (Ld (v:=str (valB D l).val))<|Qv Mv<|Qv Mv ?_
 refine QW.split (d:=23) rfl (fun h23=>?_) (fun h23=>?_)
 ·replace h23:=bT h23
  refine Qv (Fa 1 3)<|Qv (Ld (v:= .int .i64 (valB D l).kind))<|Qv Mv<|Qv Cm<|Qv Pt<|Qv Mv ?_
  refine QW.split (d:=29) rfl (fun h29=>?_) (fun h29=>?_)
  ·replace h29:=bT h29
   refine Qv (Fa 2 92)<|Qv (Ld (v:= .int .u64 (valB D l).id))<|Qv (Fa 1 92)<|Qv (Ld (v:= .int .u64 l.id))<|Qv Cm<|Qv Pt<|Qv Mv ?_
   refine QW.split (d:=36) rfl (fun h36=>?_) (fun h36=>?_)
   ·replace h36:=bT h36
    refine Qv (Fa 3 92)<|Qv (Ld (v:= .int .u64 (valB D l).ver))<|Qv (Fa 2 92)<|Qv (Ld (v:= .int .u64 l.ver))<|Qv Cm<|Qv Pt<|Qv Mv ?_
    refine QW.split (d:=43) rfl (fun h43=>?_) (fun h43=>?_)
    ·replace h43:=bT h43
     refine Qv (Fa 5 9)<|Qv (Ld (v:=str (valB D l).key))<|Qv (Fa 0 9)<|Qv (Ld (v:=str l.key))<|Qv ES<|Qv Pt<|Qv Av<|Qv Av<|Ql<|Ps<|Rt<|Rt2 ?_
     intro w' hw;exact⟨by unfold valK;simp_all,hw.ro (by repeat(first|exact .nil|apply Pick.cons|exact .here|apply Ext.there)) hs⟩
    ·replace h43:=bF h43
     refine Qp<|Qp<|Qp<|Qp<|Qp<|Qv Pf<|Qv Av<|Qv Av<|Ql<|Ps<|Rt<|Rt2 ?_
     intro w' hw;exact⟨by unfold valK;simp_all,hw.ro (by repeat(first|exact .nil|apply Pick.cons|exact .here|apply Ext.there)) hs⟩
   ·replace h36:=bF h36
    refine Qp<|Qp<|Qp<|Qp<|Qp<|Qv Pf<|Qv Mv<|Qp<|Qp<|Qp<|Qp<|Qp<|Qv Pf<|Qv Av<|Qv Av<|Ql<|Ps<|Rt<|Rt2 ?_
    intro w' hw;exact⟨by unfold valK;simp_all,hw.ro (by repeat(first|exact .nil|apply Pick.cons|exact .here|apply Ext.there)) hs⟩
  ·replace h29:=bF h29
   refine Qp<|Qp<|Qp<|Qp<|Qp<|Qv Pf<|Qv Mv<|Qp<|Qp<|Qp<|Qp<|Qp<|Qv Pf<|Qv Mv<|Qp<|Qp<|Qp<|Qp<|Qp<|Qv Pf<|Qv Av<|Qv Av<|Ql<|Ps<|Rt<|Rt2 ?_
   intro w' hw;exact⟨by unfold valK;simp_all,hw.ro (by repeat(first|exact .nil|apply Pick.cons|exact .here|apply Ext.there)) hs⟩
 ·replace h23:=bF h23
  refine Qp<|Qp<|Qp<|Qp<|Qv Pf<|Qv Mv<|Qp<|Qp<|Qp<|Qp<|Qp<|Qv Pf<|Qv Mv<|Qp<|Qp<|Qp<|Qp<|Qp<|Qv Pf<|Qv Mv<|Qp<|Qp<|Qp<|Qp<|Qp<|Qv Pf<|Qv Av<|Qv Av<|Ql<|Ps<|Rt<|Rt2 ?_
  intro w' hw;exact⟨by unfold valK;simp_all,hw.ro (by repeat(first|exact .nil|apply Pick.cons|exact .here|apply Ext.there)) hs⟩
def pairsOf (D:List Ce)(L:List Lk):List (List UInt8×List UInt8):=L.filterMap fun l=>if valK D l 1=true then some (l.key,(valB D l).val) else none
def textsOf (D:List Ce)(L:List Lk):List (List UInt8):=L.filterMap fun l=>if valK D l 2=true then some (valB D l).val else none
def prC (p:List UInt8×List UInt8):List Value:=[str p.1,str p.2]
def txC (p:List UInt8):List Value:=[str p]
theorem prC_len (p:List UInt8×List UInt8):(prC p).length=2:=rfl
theorem fm_take {α β:Type}{f:α→Option β}{L:List α}{i:Nat}{x:α}(h:L[i]? =some x):(L.take (i+1)).filterMap f=(L.take i).filterMap f++(f x).toList:=by
 have e:List.filterMap f [x]=(f x).toList:=by cases h8:f x<;>simp[h8]
 rw[List.take_add_one,h,Option.toList_some,List.filterMap_append,e]
theorem fm_le {α β:Type}{f:α→Option β}(L:List α)(i:Nat):((L.take i).filterMap f).length≤L.length:=by
 have h1:=List.length_filterMap_le f (L.take i)
 rw[List.length_take] at h1
 omega
theorem nilSeg {P:_}{n:_}{B:_}{Q:_}{e:_}{ks:_}{sg:V.Sg}(h:V.CW P n B Q e ks ([]::sg)):V.CW P n B Q e ks sg:=V.CW.perm h (.refl _)
theorem ashelf_g (x:ArR)(s:ArS)(xd:DvR)(D:List Ce)(k:Cnt)(th:Nat)(hA:ArOk th D.length x s)(hst:tStp s.Tz)(hn:(tLinks s.Tz).length≤1000)(hq:(rgQ s.rg).length≤1000)(hln:(∀l∈tLinks s.Tz,-1000000≤l.line∧l.line≤1000000)∧(∀l∈rgQ s.rg,-1000000≤l.line∧l.line≤1000000))(w:World)(hs:Sat (arS x s xd.db++dvS xd D k) w):Calls Tryz.prog 92 [.pointer (some ⟨x.a,0,none⟩)].toArray w fun e w'=>∃y:List Lk×V.OwnO×V.OwnO,((y.1.Perm (tLinks s.Tz)∧UpL y.1)∧ownOk 2 (pairsOf D y.1).length ((pairsOf D y.1).flatMap prC) y.2.1∧ownOk 1 (textsOf D (rgQ s.rg)).length ((textsOf D (rgQ s.rg)).flatMap txC) y.2.2)∧e= .returned (.agg #[ownV (pairsOf D y.1).length y.2.1,ownV (textsOf D (rgQ s.rg)).length y.2.2])∧Hp ⟨w,V.ids ((arS x s xd.db++dvS xd D k))⟩ (ownG 122 ((pairsOf D y.1).flatMap prC) y.2.1::ownG 9 ((textsOf D (rgQ s.rg)).flatMap txC) y.2.2::arS x s xd.db++dvS xd D k) w':=by
 refine V.calls (arS x s xd.db++dvS xd D k) Tryz.func92 rfl Tryz.ntmps92 (Nat.le_of_ble_eq_true rfl) hs<|Sq<|Rg<|Le AA fun b2 _=>Nl<|Ps<|Sq<|Rg<|Le AA fun b3 _=>Nl<|Ps<|Sq<|Sq<|Rg<|Lv Mv<|Le (CV fun w hw=>atable_g x s w hw.at) fun _ _=>Le (CM (tbS x.tb x.ms s.Tz) fun w hw hs0=>all_g x.tb x.ms s.Tz hA.tb hst hn w hs0) fun y hy=>?_
 obtain⟨oL,L⟩:=y
 have hLp:L.Perm (tLinks s.Tz)∧UpL L∧ownOk 5 L.length (L.flatMap lkC) oL:=hy
 clear hy
 have hLl:L.length=(tLinks s.Tz).length:=hLp.1.length_eq
 obtain⟨pL,cL,hvL,_,_⟩:=own_slg (e:=94) lkC_len L oL hLp.2.2
 refine LW.re 14 (.slice pL L.length cL) rfl hvL<|Lv Ln<|Lv Mv<|Nl<|Ps<|Bk<|nilSeg<|loopA (γ:=Nat×V.OwnO) (fun i=>[(0,.pointer (some ⟨x.a,0,none⟩)),(2,.pointer (some ⟨b2,0,none⟩)),(3,.pointer (some ⟨b3,0,none⟩)),(14,.slice pL L.length cL),(15,.int .i64 (L.length:Nat)),(16,.int .i64 (i.1:Nat))]) (fun i=>[(b3,.cells [ownV (pairsOf D (L.take i.1)).length i.2,ownV ([]:List (List UInt8)).length none].toArray 119 (0,0))]::ownG 122 ((pairsOf D (L.take i.1)).flatMap prC) i.2::[(b2,.cells [.slice none 0 0,.slice none 0 0].toArray 119 (0,0))]::ownG 94 (L.flatMap lkC) oL::(arS x s xd.db++dvS xd D k)) (fun i=>i.1≤L.length∧ownOk 2 (pairsOf D (L.take i.1)).length ((pairsOf D (L.take i.1)).flatMap prC) i.2) (fun i=>L.length-i.1) ((0,none)) ⟨Nat.zero_le _,rfl,rfl⟩ fun i=>?_
 rintro⟨hi1,hi2⟩
 refine Sq<|Rg<|Lv Cm<|Nl<|Ps<|Sq ?_
 refine CW.cond rfl (fun h17=>?_) (fun h17=>?_)
 ·replace h17:=bT h17
  have hik:i.1<L.length:=by omega
  obtain⟨l,hl⟩:∃l,L[i.1]? =some l:=⟨L[i.1]'hik,by simp⟩
  have hll:=hln.1 l (hLp.1.subset (List.mem_of_getElem? hl))
  obtain⟨g,rest,cap,hoL⟩:∃g r2 c,oL=some (g,r2,c):=by
   rcases oL with _|⟨g,r2,c⟩
   ·exact absurd hLp.2.2.2 (by omega)
   ·exact⟨g,r2,c,rfl⟩
  subst hoL
  have hpL:pL=some ⟨g,0,none⟩:=by
   have h8:ownV L.length (some (g,rest,cap))= .slice (some ⟨g,0,none⟩) L.length cap:=rfl
   rw[h8] at hvL
   injection hvL with h9
   exact h9.symm
  subst hpL
  obtain⟨r9,hr9⟩:=V.drop_flatMap lkC_len L i.1 l hl
  have hr8:(L.flatMap lkC++rest).drop (i.1*5)=lkC l++(r9++rest):=by
   rw[List.drop_append_of_le_length (by rw[V.flatMap_len lkC_len];omega),hr9,List.append_assoc]
  refine Sk<|Ps<|Sq<|Bk<|Sq<|Rg<|Lv (Val.indexAddrN (i:=i.1) rfl rfl Tryz.underlying225 Tryz.sizeOf94 (by omega))<|LW.re 18 (.pointer (some ⟨g,i.1*5,none⟩)) rfl (by simp)<|Lv (La (lkC l) (hl:=hr8))<|Le AA fun b5 _=>LeN StW fun _ _=>Nl<|Ps<|Sq<|Rg<|Lv Mv<|Lv (Lw (l:=lkC l))<|Le (CV fun w hw=>avalue_g x s xd D k l 1 hll w (hw.sat.pick (ss:=([(x.a,.cells (arC x s).toArray 166 (0,0))]::[(x.dv,.cells (avC xd.db s).toArray 178 (0,0))]::dvS xd D k)) (by repeat(first|exact .nil|apply Pick.cons|exact .here|apply Ext.there)))) fun _ _=>Lv Mv<|Lv Ex<|Lv Ex<|Lv Av<|Lv Av<|Nl<|Ps<|Sq<|Rg<|Lv Mv<|Nl<|Ps ?_
  refine CW.cond rfl (fun h26=>?_) (fun h26=>?_)
  ·replace h26:=bT h26
   have h26:valK D l 1=true:=h26
   have hst2:pairsOf D (L.take (i.1+1))=(pairsOf D (L.take i.1))++[(l.key,(valB D l).val)]:=by unfold pairsOf;rw[fm_take hl,if_pos h26];rfl
   have hle:=fm_le (f:=fun l=>if valK D l 1=true then some (l.key,(valB D l).val) else none) L i.1
   replace hle:(pairsOf D (L.take i.1)).length≤L.length:=hle
   refine Rg<|Lv (Fa 0 96)<|Lv (Ld (v:=ownV (pairsOf D (L.take i.1)).length i.2))<|Lv (Fa 0 9)<|Lv (Ld (v:=str l.key))<|Lv Mv<|Lv (Bd (prC (l.key,(valB D l).val)))<|Le (Eff.buildSlice (rfl) [_,_] Tryz.underlying96 Tryz.sizeOf122 (by exact Tryz.zeroValue122) rfl rfl rfl rfl (by rfl)) fun b33 _=>Le (Eff.appendAny (prC (l.key,(valB D l).val)) (sz:=2) (bytes:=32) (z:= .agg #[.string ⟨#[]⟩,.string ⟨#[]⟩]) (xs:=(pairsOf D (L.take i.1)).flatMap prC) (m0:=(pairsOf D (L.take i.1)).length) (o:=i.2) (m:=1) (pk:=[ownG 122 ((pairsOf D (L.take i.1)).flatMap prC) (i.2)]) rfl rfl Tryz.underlying96 (by kernel_rfl) rfl (by omega) (by repeat(first|exact .nil|apply Pick.cons|exact .here|apply Ext.there)) (by simp) hi2 (by rfl) (fun hm0=>⟨b33,0,rfl,fun w hw=>V.range_of_block (o:=0) (cs:=prC (l.key,(valB D l).val)) (r:=[]) (hw.own _ (show InS (b33,.cells (prC (l.key,(valB D l).val)).toArray 122 (0,0)) _ from(by repeat(first|exact .here|exact .inner .here|exact .inner (.inner .here)|refine .there ?_))).mem) rfl⟩) (by rfl) (by omega) (by omega)) fun o2 ho2=>Lv (Fa 0 96)<|LeN (Eff.store (l':=[ownV ((pairsOf D (L.take i.1)).length+1) o2,ownV ([]:List (List UInt8)).length none]) rfl rfl (V.ownV_one _ _) (by repeat(first|exact .here|exact .inner .here|exact .inner (.inner .here)|apply Upd.there)) (by rfl) (by rfl) Tryz.sizeOf96) fun _ _=>Nl<|Bn<|Ps<|Rg<|Lv Ar<|Lv Mv<|Nl ?_
   rw[← show(pairsOf D (L.take (i.1+1))).flatMap prC=(pairsOf D (L.take i.1)).flatMap prC++prC (l.key,(valB D l).val) by rw[hst2,List.flatMap_append];rfl]
   rw[← show(pairsOf D (L.take (i.1+1))).length=(pairsOf D (L.take i.1)).length+1 by rw[hst2,List.length_append];rfl]
   exact roundA ((i.1+1,o2)) ⟨by simp only;omega,by simp only;rw[hst2,List.flatMap_append,List.length_append];exact ho2⟩ (by simp only;omega)
  ·replace h26:=bF h26
   have h26:valK D l 1=false:=h26
   have hst2:pairsOf D (L.take (i.1+1))=(pairsOf D (L.take i.1)):=by unfold pairsOf;rw[fm_take hl,if_neg (by rw[h26];decide)];simp
   refine Sk<|Bn<|Ps<|Rg<|Lv Ar<|Lv Mv<|Nl ?_
   rw[← hst2]
   exact roundA ((i.1+1,i.2)) ⟨by simp only;omega,by simp only;rw[hst2];exact hi2⟩ (by simp only;omega)
 ·replace h17:=bF h17
  obtain⟨i1,po⟩:=i
  have hi9:i1=L.length:=by simp only at hi1 h17;omega
  subst hi9
  replace hi2:ownOk 2 (pairsOf D L).length ((pairsOf D L).flatMap prC) po:=by have h8:=hi2;simp only[List.take_length] at h8;exact h8
  have hi0:=hi2
  simp only[List.take_length]
  refine Xt<|Te<|Te<|Bh<|Ps<|Sq<|Sq<|Rg<|Lv Mv<|Le (CV fun w hw=>aline_g x s w hw.at) fun _ _=>Le (CM (rgS 277 x.fb s.rg s.ro) fun w hw hs0=>lall_c x.fb s.rg s.ro hA.rg w hs0) fun oQ hQ=>?_
  obtain⟨pQ,cQ,hvQ,_,_⟩:=own_slg (e:=94) lkC_len (rgQ s.rg) oQ hQ
  refine LW.re 39 (.slice pQ (rgQ s.rg).length cQ) rfl hvQ<|Lv Ln<|Lv Mv<|Nl<|Ps<|Bk<|nilSeg<|loopA (γ:=Nat×V.OwnO) (fun i=>[(0,.pointer (some ⟨x.a,0,none⟩)),(2,.pointer (some ⟨b2,0,none⟩)),(3,.pointer (some ⟨b3,0,none⟩)),(39,.slice pQ (rgQ s.rg).length cQ),(40,.int .i64 ((rgQ s.rg).length:Nat)),(41,.int .i64 (i.1:Nat))]) (fun i=>[(b3,.cells [ownV (pairsOf D L).length po,ownV (textsOf D ((rgQ s.rg).take i.1)).length i.2].toArray 119 (0,0))]::ownG 9 ((textsOf D ((rgQ s.rg).take i.1)).flatMap txC) i.2::ownG 122 ((pairsOf D L).flatMap prC) po::[(b2,.cells [.slice none 0 0,.slice none 0 0].toArray 119 (0,0))]::ownG 94 ((rgQ s.rg).flatMap lkC) oQ::(arS x s xd.db++dvS xd D k)) (fun i=>i.1≤(rgQ s.rg).length∧ownOk 1 (textsOf D ((rgQ s.rg).take i.1)).length ((textsOf D ((rgQ s.rg).take i.1)).flatMap txC) i.2) (fun i=>(rgQ s.rg).length-i.1) ((0,none)) ⟨Nat.zero_le _,rfl,rfl⟩ fun i=>?_
  rintro⟨hi1,hi2⟩
  refine Sq<|Rg<|Lv Cm<|Nl<|Ps<|Sq ?_
  refine CW.cond rfl (fun h42=>?_) (fun h42=>?_)
  ·replace h42:=bT h42
   have hik:i.1<(rgQ s.rg).length:=by omega
   obtain⟨l,hl⟩:∃l,(rgQ s.rg)[i.1]? =some l:=⟨(rgQ s.rg)[i.1]'hik,by simp⟩
   have hll:=hln.2 l (List.mem_of_getElem? hl)
   obtain⟨g,rest,cap,hoQ⟩:∃g r2 c,oQ=some (g,r2,c):=by
    rcases oQ with _|⟨g,r2,c⟩
    ·exact absurd hQ.2 (by omega)
    ·exact⟨g,r2,c,rfl⟩
   subst hoQ
   have hpQ:pQ=some ⟨g,0,none⟩:=by
    have h8:ownV (rgQ s.rg).length (some (g,rest,cap))= .slice (some ⟨g,0,none⟩) (rgQ s.rg).length cap:=rfl
    rw[h8] at hvQ
    injection hvQ with h9
    exact h9.symm
   subst hpQ
   obtain⟨r9,hr9⟩:=V.drop_flatMap lkC_len (rgQ s.rg) i.1 l hl
   have hr8:((rgQ s.rg).flatMap lkC++rest).drop (i.1*5)=lkC l++(r9++rest):=by
    rw[List.drop_append_of_le_length (by rw[V.flatMap_len lkC_len];omega),hr9,List.append_assoc]
   refine Sk<|Ps<|Sq<|Bk<|Sq<|Rg<|Lv (Val.indexAddrN (i:=i.1) rfl rfl Tryz.underlying225 Tryz.sizeOf94 (by omega))<|LW.re 43 (.pointer (some ⟨g,i.1*5,none⟩)) rfl (by simp)<|Lv (La (lkC l) (hl:=hr8))<|Le AA fun b9 _=>LeN StW fun _ _=>Nl<|Ps<|Sq<|Rg<|Lv Mv<|Lv (Lw (l:=lkC l))<|Le (CV fun w hw=>avalue_g x s xd D k l 2 hll w (hw.sat.pick (ss:=([(x.a,.cells (arC x s).toArray 166 (0,0))]::[(x.dv,.cells (avC xd.db s).toArray 178 (0,0))]::dvS xd D k)) (by repeat(first|exact .nil|apply Pick.cons|exact .here|apply Ext.there)))) fun _ _=>Lv Mv<|Lv Ex<|Lv Ex<|Lv Av<|Lv Av<|Nl<|Ps<|Sq<|Rg<|Lv Mv<|Nl<|Ps ?_
   refine CW.cond rfl (fun h51=>?_) (fun h51=>?_)
   ·replace h51:=bT h51
    have h51:valK D l 2=true:=h51
    have hst2:textsOf D ((rgQ s.rg).take (i.1+1))=(textsOf D ((rgQ s.rg).take i.1))++[(valB D l).val]:=by unfold textsOf;rw[fm_take hl,if_pos h51];rfl
    have hle:=fm_le (f:=fun l=>if valK D l 2=true then some (valB D l).val else none) (rgQ s.rg) i.1
    replace hle:(textsOf D ((rgQ s.rg).take i.1)).length≤(rgQ s.rg).length:=hle
    refine Rg<|Lv (Fa 1 23)<|Lv (Ld (v:=ownV (textsOf D ((rgQ s.rg).take i.1)).length i.2))<|Lv Mv<|Le (Eff.buildSlice (rfl) [_] Tryz.underlying23 Tryz.sizeOf9 (by exact Tryz.zeroValue9) rfl rfl rfl rfl (by rfl)) fun b55 _=>Le (Eff.appendAny (txC (valB D l).val) (sz:=1) (bytes:=16) (z:= .string ⟨#[]⟩) (xs:=(textsOf D ((rgQ s.rg).take i.1)).flatMap txC) (m0:=(textsOf D ((rgQ s.rg).take i.1)).length) (o:=i.2) (m:=1) (pk:=[ownG 9 ((textsOf D ((rgQ s.rg).take i.1)).flatMap txC) (i.2)]) rfl rfl Tryz.underlying23 (by kernel_rfl) rfl (by omega) (by repeat(first|exact .nil|apply Pick.cons|exact .here|apply Ext.there)) (by simp) hi2 (by rfl) (fun hm0=>⟨b55,0,rfl,fun w hw=>V.range_of_block (o:=0) (cs:=txC (valB D l).val) (r:=[]) (hw.own _ (show InS (b55,.cells (txC (valB D l).val).toArray 9 (0,0)) _ from(by repeat(first|exact .here|exact .inner .here|exact .inner (.inner .here)|refine .there ?_))).mem) rfl⟩) (by rfl) (by omega) (by omega)) fun o2 ho2=>Lv (Fa 1 23)<|LeN (Eff.store (l':=[ownV (pairsOf D L).length po,ownV ((textsOf D ((rgQ s.rg).take i.1)).length+1) o2]) rfl rfl (V.ownV_one _ _) (by repeat(first|exact .here|exact .inner .here|exact .inner (.inner .here)|apply Upd.there)) (by rfl) (by rfl) Tryz.sizeOf23) fun _ _=>Nl<|Bn<|Ps<|Rg<|Lv Ar<|Lv Mv<|Nl ?_
    rw[← show(textsOf D ((rgQ s.rg).take (i.1+1))).flatMap txC=(textsOf D ((rgQ s.rg).take i.1)).flatMap txC++txC (valB D l).val by rw[hst2,List.flatMap_append];rfl]
    rw[← show(textsOf D ((rgQ s.rg).take (i.1+1))).length=(textsOf D ((rgQ s.rg).take i.1)).length+1 by rw[hst2,List.length_append];rfl]
    exact roundA ((i.1+1,o2)) ⟨by simp only;omega,by simp only;rw[hst2,List.flatMap_append,List.length_append];exact ho2⟩ (by simp only;omega)
   ·replace h51:=bF h51
    have h51:valK D l 2=false:=h51
    have hst2:textsOf D ((rgQ s.rg).take (i.1+1))=(textsOf D ((rgQ s.rg).take i.1)):=by unfold textsOf;rw[fm_take hl,if_neg (by rw[h51];decide)];simp
    refine Sk<|Bn<|Ps<|Rg<|Lv Ar<|Lv Mv<|Nl ?_
    rw[← hst2]
    exact roundA ((i.1+1,i.2)) ⟨by simp only;omega,by simp only;rw[hst2];exact hi2⟩ (by simp only;omega)
  ·replace h42:=bF h42
   obtain⟨i1,qo⟩:=i
   have hi9:i1=(rgQ s.rg).length:=by simp only at hi1 h42;omega
   subst hi9
   replace hi2:ownOk 1 (textsOf D (rgQ s.rg)).length ((textsOf D (rgQ s.rg)).flatMap txC) qo:=by have h8:=hi2;simp only[List.take_length] at h8;exact h8
   simp only[List.take_length]
   refine Xt<|Te<|Te<|Bh<|Ps<|Sq<|Rg<|Lv (Lw (l:=[ownV (pairsOf D L).length po,ownV (textsOf D (rgQ s.rg)).length qo]))<|LeN (StW (cs:=[ownV (pairsOf D L).length po,ownV (textsOf D (rgQ s.rg)).length qo]) (h1:=by simp[V.ownV_one])) fun _ _=>Nl<|Ps<|Rt<|PQ.retC (l:=[ownV (pairsOf D L).length po,ownV (textsOf D (rgQ s.rg)).length qo]) rfl rfl (by repeat(first|exact .here|exact .inner .here|exact .inner (.inner .here)|refine .there ?_)) Tryz.isAgg119 (by exact Tryz.sizeOf119) ?_
   intro w' hw;exact⟨(L,po,qo),⟨⟨hLp.1,hLp.2.1⟩,hi0,hi2⟩,rfl,hw.pick (by repeat(first|exact .nil|apply Pick.cons|exact .here|apply Ext.there))⟩
theorem u64_nn (a:Int):0≤IntKind.u64.wrap a:=by
 have h:=Int.emod_nonneg a (show(18446744073709551616:Int)≠0 by decide)
 have e:IntKind.u64.wrap a=a%18446744073709551616:=by first|rfl|(simp[IntKind.wrap];done)|(unfold IntKind.wrap;rfl)
 rw[e];exact h
theorem low_g (a m:Int)(hm:0<m∧m≤1000)(w:World):∃v:Nat,v<m∧Calls Tryz.prog 8 [.int .i64 a,.int .i64 m].toArray w fun e w'=>e= .returned (.int .i64 (v:Nat))∧Below w.heap.size w w':=by
 have hm1:IntKind.u64.wrap m=m:=IntWalk.u64_in _ (by omega)
 have h0:=u64_nn a
 have h1:0≤(IntKind.u64.wrap a).tmod m:=Int.tmod_nonneg m h0
 have h2:(IntKind.u64.wrap a).tmod m<m:=Int.tmod_lt_of_pos _ hm.1
 refine⟨((IntKind.u64.wrap a).tmod m).toNat,by omega,?_⟩
 have h3:IntKind.i64.wrap ((IntKind.u64.wrap a).tmod m)=(((IntKind.u64.wrap a).tmod m).toNat:Nat):=by rw[IntWalk.i64_in _ (by omega)];omega
 rw[← h3]
 refine V.calls [] Tryz.func8 rfl Tryz.ntmps8 (Nat.le_of_ble_eq_true rfl) (V.sat_nil _)<|Sq<|Rg<|Lv Av<|Nl<|Ps<|Sq<|Rg<|Lv Mv<|Lv Cv<|Lv Mv<|Lv Cv<|LW.re 8 (.int .u64 m) rfl (by rw[hm1])<|Lv (Val.rem rfl rfl (by omega))<|Lv Cv<|Lv Av<|Nl<|Ps<|Rt<|Rt1 ?_
 intro w' hw;exact⟨rfl,hw.below⟩
structure tInv (Tz:Tbl):Prop where
 len:Tz.length=8
 st:tStp Tz
 bk:∀i p,Tz[i]? =some p→∀e∈p.1,bkF e.2.key=i
 nd:((tLinks Tz).map (·.key)).Nodup
theorem tb0_inv:tInv tb0:=by
 refine⟨rfl,fun p hp=>?_,fun i p hp e he=>?_,?_⟩
 ·obtain rfl:=List.eq_of_mem_replicate hp
  exact V.Stp.nil _
 ·obtain rfl:=List.eq_of_mem_replicate (List.mem_of_getElem? hp)
  cases he
 ·decide
theorem lget_none {E:LE}{k:List UInt8}(h:lget E k=none):∀e∈E,e.2.key≠k:=by
 intro e he hk
 unfold lget at h
 rw[Option.map_eq_none_iff,List.find?_eq_none] at h
 exact h e he (by simpa using hk)
theorem tLinks_set {Tz:Tbl}{i:Nat}{p q:LE×Nat}{x:Lk}(hp:Tz[i]? =some p)(hq:q.1.map (·.2)=p.1.map (·.2)++[x]):(tLinks (Tz.set i q)).Perm (tLinks Tz++[x]):=by
 obtain⟨hi,hv⟩:=List.getElem?_eq_some_iff.1 hp
 have e1:Tz=Tz.take i++p::Tz.drop (i+1):=by
  have h8:=List.take_append_drop i Tz
  rw[List.drop_eq_getElem_cons hi,hv] at h8
  exact h8.symm
 have e2:Tz.set i q=Tz.take i++q::Tz.drop (i+1):=by
  rw[List.set_eq_take_append_cons_drop,if_pos hi]
 have e3:tLinks Tz=tLinks (Tz.take i)++(p.1.map (·.2)++tLinks (Tz.drop (i+1))):=by
  conv=>lhs;rw[e1]
  unfold tLinks
  rw[List.flatMap_append,List.flatMap_cons]
 have e4:tLinks (Tz.set i q)=tLinks (Tz.take i)++((p.1.map (·.2)++[x])++tLinks (Tz.drop (i+1))):=by
  rw[e2]
  unfold tLinks
  rw[List.flatMap_append,List.flatMap_cons,hq]
 rw[e3,e4,List.append_assoc,List.append_assoc,List.append_assoc]
 exact(List.perm_append_comm.append_left _).append_left _
theorem tSet_inv {Tz:Tbl}{x:Lk}(h:tInv Tz)(hg:(tGet Tz x.key).isSome=false):tInv (tSet Tz x)∧(tLinks (tSet Tz x)).Perm (tLinks Tz++[x]):=by
 have hb:=bkF_lt x.key
 obtain⟨p,hp⟩:∃p,Tz[bkF x.key]? =some p:=⟨Tz[bkF x.key]'(by rw[h.len];omega),by simp⟩
 have hl:lget p.1 x.key=none:=by
  unfold tGet at hg
  rw[hp] at hg
  simpa using hg
 have e:tSet Tz x=Tz.set (bkF x.key) (lput p.1 x p.2,lclk p.1 x.key p.2):=by unfold tSet;rw[hp]
 have e2:lput p.1 x p.2=p.1++[(p.2,x)]:=by unfold lput;rw[hl];rfl
 have hperm:(tLinks (tSet Tz x)).Perm (tLinks Tz++[x]):=by
  rw[e]
  exact tLinks_set hp (by rw[e2];simp)
 have hpi:=List.getElem?_eq_some_iff.1 hp
 refine⟨⟨?_,fun q hq=>?_,fun i q hq e' he=>?_,?_⟩,hperm⟩
 ·rw[tSet_len];exact h.len
 ·rw[e] at hq
  rcases List.mem_or_eq_of_mem_set hq with h8|h8
  ·exact h.st q h8
  ·rw[h8,← mput_me,← mclk_me]
   exact(h.st p (List.mem_of_getElem? hp)).put _ _
 ·rw[e,List.getElem?_set] at hq
  split at hq
  ·rename_i hi
   split at hq
   ·simp only[Option.some.injEq] at hq
    subst hq
    rw[e2] at he
    rcases List.mem_append.1 he with h8|h8
    ·rw[← hi];exact h.bk _ p hp e' h8
    ·rw[List.mem_singleton] at h8
     rw[h8];exact hi
   ·cases hq
  ·exact h.bk i q hq e' he
 ·have h9:((tLinks (tSet Tz x)).map (·.key)).Perm ((tLinks Tz).map (·.key)++[x.key]):=by
   have:=hperm.map (·.key)
   simpa using this
  rw[h9.nodup_iff,List.nodup_append]
  refine⟨h.nd,by simp,fun a ha b hb2=>?_⟩
  rw[List.mem_singleton] at hb2
  obtain⟨l,hlm,rfl⟩:=List.mem_map.1 ha
  unfold tLinks at hlm
  rw[List.mem_flatMap] at hlm
  obtain⟨q,hq,hlq⟩:=hlm
  obtain⟨e',he',rfl⟩:=List.mem_map.1 hlq
  obtain⟨j,hj⟩:=List.mem_iff_getElem?.1 hq
  intro hk
  rw[hb2] at hk
  have h10:=h.bk j q hj e' he'
  rw[hk] at h10
  subst h10
  rw[hp,Option.some.injEq] at hj
  subst hj
  exact lget_none hl e' he' hk
end G
end Go.Proofs.YtpjmdbifacijoaaGreatDoor
namespace Go.Proofs.YtpjmdbifacijoaaGreatDoor
open Go Go.RowKit V
set_option linter.unusedVariables false
set_option maxRecDepth 100000
set_option maxHeartbeats 2000000
namespace G
open V (str byC ownV ownG ownS ownOk)
instance:Und Tryz.prog 317 (dOf Tryz.underlying317):=⟨Tryz.underlying317⟩
instance:Cal Tryz.prog 316:=⟨Tryz.call316⟩
instance:Cal Tryz.prog 374:=⟨Tryz.call374⟩
instance:Cal Tryz.prog 380:=⟨Tryz.call380⟩
instance:Cal Tryz.prog 431:=⟨Tryz.call431⟩
instance:Cal Tryz.prog 445:=⟨Tryz.call445⟩
theorem x_swapU {a:Addr}{x y:Int}{w:World}(hc:w.cell? a=some (.int .u64 x))(hz:w.frozen? a=false):(callFunc 464 #[.pointer (some a),.int .u64 y]).run Tryz.prog w= .ok (.value (.int .u64 x)) (w.setCell a (.int .u64 y)):=V.run_call_swap Tryz.func464 (by kernel_rfl) (by kernel_rfl) (by kernel_rfl) .u64 (by kernel_rfl) hc hz
theorem x_addU {a:Addr}{x y:Int}{w:World}(hc:w.cell? a=some (.int .u64 x))(hz:w.frozen? a=false):(callFunc 416 #[.pointer (some a),.int .u64 y]).run Tryz.prog w= .ok (.value (.int .u64 (IntKind.u64.wrap (x+y)))) (w.setCell a (.int .u64 (IntKind.u64.wrap (x+y)))):=run_call_add Tryz.func416 (by kernel_rfl) (by kernel_rfl) (by kernel_rfl) .u64 (by kernel_rfl) hc hz rfl
theorem x_hitU {a:Addr}{x y:Int}{w:World}(hc:w.cell? a=some (.int .u64 x))(hz:w.frozen? a=false):(callFunc 372 #[.pointer (some a),.int .u64 x,.int .u64 y]).run Tryz.prog w= .ok (.value (.bool true)) (w.setCell a (.int .u64 y)):=run_call_cas_hit Tryz.func372 (by kernel_rfl) (by kernel_rfl) (by kernel_rfl) .u64 (by kernel_rfl) hc hz
theorem x_missU {a:Addr}{x y o:Int}{w:World}(hc:w.cell? a=some (.int .u64 x))(hz:w.frozen? a=false)(hne:¬x=o):(callFunc 372 #[.pointer (some a),.int .u64 o,.int .u64 y]).run Tryz.prog w= .ok (.value (.bool false)) w:=run_call_cas_miss Tryz.func372 (by kernel_rfl) (by kernel_rfl) (by kernel_rfl) .u64 (by kernel_rfl) hc hz hne
theorem uSwap_c (b o:Nat)(l:List Value)(T:TypeId)(x:Int)(hl:l[o]? =some (.int .u64 x))(y:Int)(w:World)(hs:Sat [[(b,.cells l.toArray T (0,0))]] w):Calls Tryz.prog 445 [.pointer (some ⟨b,o,none⟩),.int .u64 y].toArray w fun e w'=>∃_u:Unit,True∧e= .returned (.int .u64 x)∧Hp ⟨w,V.ids ([[(b,.cells l.toArray T (0,0))]])⟩ ([[(b,.cells (l.set o (.int .u64 y)).toArray T (0,0))]]) w':=by
 refine V.calls [[(b,.cells l.toArray T (0,0))]] Tryz.func445 rfl Tryz.ntmps445 (Nat.le_of_ble_eq_true rfl) hs<|Sq<|Rg<|Lv Av<|Nl<|Ps<|Sq<|Rg<|Lv Mv<|Lv Nz<|Lv (Fa 0 92)<|LW.re 7 (.pointer (some ⟨b,o,none⟩)) rfl rfl<|Lv Mv<|Le (Eff.ext (l':=l.set o (.int .u64 y)) rfl .here rfl (fun w hb=>x_swapU (V.cell_of_block hb (by exact hl)) (V.frozen_of hb))) fun _ _=>Lv Av<|Nl<|Ps<|Rt<|Rt1 ?_
 intro w' hw;exact⟨(),trivial,rfl,hw⟩
theorem uAdd_c (b o:Nat)(l:List Value)(T:TypeId)(x:Int)(hl:l[o]? =some (.int .u64 x))(y:Int)(w:World)(hs:Sat [[(b,.cells l.toArray T (0,0))]] w):Calls Tryz.prog 374 [.pointer (some ⟨b,o,none⟩),.int .u64 y].toArray w fun e w'=>∃_u:Unit,True∧e= .returned (.int .u64 (IntKind.u64.wrap (x+y)))∧Hp ⟨w,V.ids ([[(b,.cells l.toArray T (0,0))]])⟩ ([[(b,.cells (l.set o (.int .u64 (IntKind.u64.wrap (x+y)))).toArray T (0,0))]]) w':=by
 refine V.calls [[(b,.cells l.toArray T (0,0))]] Tryz.func374 rfl Tryz.ntmps374 (Nat.le_of_ble_eq_true rfl) hs<|Sq<|Rg<|Lv Av<|Nl<|Ps<|Sq<|Rg<|Lv Mv<|Lv Nz<|Lv (Fa 0 92)<|LW.re 7 (.pointer (some ⟨b,o,none⟩)) rfl rfl<|Lv Mv<|Le (Eff.ext (l':=l.set o (.int .u64 (IntKind.u64.wrap (x+y)))) rfl .here rfl (fun w hb=>x_addU (V.cell_of_block hb (by exact hl)) (V.frozen_of hb))) fun _ _=>Lv Av<|Nl<|Ps<|Rt<|Rt1 ?_
 intro w' hw;exact⟨(),trivial,rfl,hw⟩
theorem uHit_c (b o:Nat)(l:List Value)(T:TypeId)(x:Int)(hl:l[o]? =some (.int .u64 x))(y:Int)(w:World)(hs:Sat [[(b,.cells l.toArray T (0,0))]] w):Calls Tryz.prog 316 [.pointer (some ⟨b,o,none⟩),.int .u64 x,.int .u64 y].toArray w fun e w'=>∃_u:Unit,True∧e= .returned (.bool true)∧Hp ⟨w,V.ids ([[(b,.cells l.toArray T (0,0))]])⟩ ([[(b,.cells (l.set o (.int .u64 y)).toArray T (0,0))]]) w':=by
 refine V.calls [[(b,.cells l.toArray T (0,0))]] Tryz.func316 rfl Tryz.ntmps316 (Nat.le_of_ble_eq_true rfl) hs<|Sq<|Rg<|Lv Av<|Nl<|Ps<|Sq<|Rg<|Lv Mv<|Lv Nz<|Lv (Fa 0 92)<|LW.re 9 (.pointer (some ⟨b,o,none⟩)) rfl rfl<|Lv Mv<|Lv Mv<|Le (Eff.ext (l':=l.set o (.int .u64 y)) rfl .here rfl (fun w hb=>x_hitU (V.cell_of_block hb (by exact hl)) (V.frozen_of hb))) fun _ _=>Lv Av<|Nl<|Ps<|Rt<|Rt1 ?_
 intro w' hw;exact⟨(),trivial,rfl,hw⟩
theorem uMiss_c (b o:Nat)(l:List Value)(T:TypeId)(x:Int)(hl:l[o]? =some (.int .u64 x))(z y:Int)(hne:¬x=z)(w:World)(hs:Sat [[(b,.cells l.toArray T (0,0))]] w):Calls Tryz.prog 316 [.pointer (some ⟨b,o,none⟩),.int .u64 z,.int .u64 y].toArray w fun e w'=>e= .returned (.bool false)∧Below w.heap.size w w':=by
 refine V.calls [[(b,.cells l.toArray T (0,0))]] Tryz.func316 rfl Tryz.ntmps316 (Nat.le_of_ble_eq_true rfl) hs<|Sq<|Rg<|Lv Av<|Nl<|Ps<|Sq<|Rg<|Lv Mv<|Lv Nz<|Lv (Fa 0 92)<|LW.re 9 (.pointer (some ⟨b,o,none⟩)) rfl rfl<|Lv Mv<|Lv Mv<|Lv (Val.ext rfl (fun w hw=>x_missU (V.cell_of_block (hw.own _ InS.here.mem) (by exact hl)) (V.frozen_of (hw.own _ InS.here.mem)) hne))<|Lv Av<|Nl<|Ps<|Rt<|Rt1 ?_
 intro w' hw;exact⟨rfl,hw.ro (by repeat(first|exact .nil|apply Pick.cons|exact .here|apply Ext.there)) hs⟩
def inR (l:List Int)(t:Int):Prop:=0≤t∧t<l.length
instance (l:List Int)(t:Int):Decidable (inR l t):=inferInstanceAs (Decidable (_∧_))
def rEnter (r:Rdr)(t:Int):Rdr:=if inR r.has t∧r.has.getD t.toNat 0=0 then {r with has:=r.has.set t.toNat r.now} else r
def rEnterE (r:Rdr)(t:Int):Int:=if inR r.has t then(if r.has.getD t.toNat 0=0 then 0 else 7) else 1
def rEnterV (r:Rdr)(t:Int):Int:=if rEnterE r t=0 then r.now else 0
def rLeave (r:Rdr)(t:Int):Rdr:=if inR r.has t then {r with has:=r.has.set t.toNat 0} else r
def rLeaveE (r:Rdr)(t:Int):Int:=if inR r.has t then(if r.has.getD t.toNat 0=0 then 12 else 0) else 1
theorem hasU_at {l:List Int}{t:Int}(h:inR l t):(l.flatMap inU)[t.toNat]? =some (.int .u64 (l.getD t.toNat 0)):=by
 have h1:t.toNat<l.length:=by unfold inR at h;omega
 rw[inU_map,List.getElem?_map,List.getElem?_eq_getElem h1,List.getD_eq_getElem?_getD,List.getElem?_eq_getElem h1]
 rfl
theorem hasU_set (l:List Int)(t:Nat)(v:Int):(l.flatMap inU).set t (.int .u64 v)=(l.set t v).flatMap inU:=by rw[inU_map,inU_map,List.map_set]
theorem rEnter_len (r:Rdr)(t:Int):(rEnter r t).has.length=r.has.length:=by unfold rEnter;split<;>simp
theorem rLeave_len (r:Rdr)(t:Int):(rLeave r t).has.length=r.has.length:=by unfold rLeave;split<;>simp
def thV (hb:Nat)(l:List Int)(t:Int):Value:=if inR l t then .pointer (some ⟨hb,t.toNat,none⟩) else .pointer none
theorem rthread_g (rb hb:Nat)(r:Rdr)(t:Int)(w:World)(hs:Sat (rdS rb hb r) w):Calls Tryz.prog 431 [.pointer (some ⟨rb,0,none⟩),.int .i64 t].toArray w fun e w'=>e= .returned (thV hb r.has t)∧Below w.heap.size w w':=by
 refine V.calls (rdS rb hb r) Tryz.func431 rfl Tryz.ntmps431 (Nat.le_of_ble_eq_true rfl) hs<|Sq<|Rg<|Lv Av<|Nl<|Ps<|Sq<|Sq<|Rg<|Lv Mv<|Lv EP<|Lv Mv<|Lv Mv<|Lv Cm<|Lv Pf<|Lv Mv ?_
 refine LW.split (d:=11) rfl (fun h11=>?_) (fun h11=>?_)
 ·replace h11:=bT h11
  refine Lp<|Lp<|Lp<|Lp<|Lp<|Lp<|Lp<|Lv Pt<|Nl<|Ps<|Ct<|Sq<|Rg<|Lv Av<|Nl<|Ps<|Rt<|Tr<|Rt1 ?_
  intro w' hw;exact⟨by rw[thV,if_neg (by unfold inR;omega)],hw.ro (by repeat(first|exact .nil|apply Pick.cons|exact .here|apply Ext.there)) hs⟩
 ·replace h11:=bF h11
  refine Lv Mv<|Lv Mv<|Lv Nz<|Lv (Fa 1 255)<|Lv Ld<|Lv Ln<|Lv Cm<|Lv Pf<|Nl<|Ps ?_
  refine CW.cond rfl (fun h19=>?_) (fun h19=>?_)
  ·replace h19:=bT h19
   refine Sq<|Rg<|Lv Av<|Nl<|Ps<|Rt<|Tr<|Rt1 ?_
   intro w' hw;exact⟨by rw[thV,if_neg (by unfold inR;omega)],hw.ro (by repeat(first|exact .nil|apply Pick.cons|exact .here|apply Ext.there)) hs⟩
  ·replace h19:=bF h19
   refine Sk<|Ps<|Sq<|Rg<|Lv Mv<|Lv Nz<|Lv (Fa 1 255)<|Lv Ld<|Lv Mv<|Lv Ix<|Lv Av<|Nl<|Ps<|Rt<|Rt1 ?_
   intro w' hw;exact⟨by rw[thV,if_pos (by unfold inR;omega)];simp,hw.ro (by repeat(first|exact .nil|apply Pick.cons|exact .here|apply Ext.there)) hs⟩
theorem rnow_g (rb hb:Nat)(r:Rdr)(w:World)(hs:Sat (rdS rb hb r) w):Calls Tryz.prog 380 [.pointer (some ⟨rb,0,none⟩)].toArray w fun e w'=>e= .returned (.int .u64 r.now)∧Below w.heap.size w w':=by
 refine V.calls (rdS rb hb r) Tryz.func380 rfl Tryz.ntmps380 (Nat.le_of_ble_eq_true rfl) hs<|Sq<|Rg<|Lv Av<|Nl<|Ps<|Sq<|Sq<|Rg<|Lv Mv<|Lv EP<|Nl<|Ps<|Cf<|Sk<|Ps<|Sq<|Rg<|Lv Mv<|Lv Nz<|Lv (Fa 0 164)<|Le (CV fun w hw=>uLd_c rb 0 (rdC hb r) 257 r.now w rfl (hw.sat.pick (ss:=[[(rb,.cells (rdC hb r).toArray 257 (0,0))]]) (by repeat(first|exact .nil|apply Pick.cons|exact .here|apply Ext.there)))) fun _ _=>Lv Av<|Nl<|Ps<|Rt<|Rt1 ?_
 intro w' hw;exact⟨rfl,hw.ro (by repeat(first|exact .nil|apply Pick.cons|exact .here|apply Ext.there)) hs⟩
theorem renter_g (rb hb:Nat)(r:Rdr)(t:Int)(w:World)(hs:Sat (rdS rb hb r) w):Calls Tryz.prog 398 [.pointer (some ⟨rb,0,none⟩),.int .i64 t].toArray w fun e w'=>∃_u:Unit,True∧e= .returned (.tuple #[.int .u64 (rEnterV r t),.int .i64 (rEnterE r t)])∧Hp ⟨w,V.ids ((rdS rb hb r))⟩ (rdS rb hb (rEnter r t)) w':=by
 by_cases ht:inR r.has t
 ·by_cases h0:r.has.getD t.toNat 0=0
  ·have e1:rEnter r t={r with has:=r.has.set t.toNat r.now}:=if_pos ⟨ht,h0⟩
   have e2:rEnterE r t=0:=(if_pos ht).trans (if_pos h0)
   have e3:rEnterV r t=r.now:=if_pos e2
   rw[e1,e2,e3]
   refine V.calls (rdS rb hb r) Tryz.func398 rfl Tryz.ntmps398 (Nat.le_of_ble_eq_true rfl) hs<|Sq<|Rg<|Lv Av<|Lv Av<|Nl<|Ps<|Sq<|Rg<|Lv Mv<|Lv Mv<|Le (CV fun w hw=>rthread_g rb hb r t w (hw.sat.pick (ss:=(rdS rb hb r)) (by repeat(first|exact .nil|apply Pick.cons|exact .here|apply Ext.there)))) fun _ _=>LW.re 10 (.pointer (some ⟨hb,t.toNat,none⟩)) rfl (if_pos ht)<|Lv Av<|Nl<|Ps<|Sq<|Sq<|Rg<|Lv Mv<|Lv EP<|Nl<|Ps<|Cf<|Sk<|Ps<|Sq<|Rg<|Lv Mv<|Le (CV fun w hw=>rnow_g rb hb r w (hw.sat.pick (ss:=(rdS rb hb r)) (by repeat(first|exact .nil|apply Pick.cons|exact .here|apply Ext.there)))) fun _ _=>Lv Av<|Nl<|Ps<|Sq<|Sq<|Rg<|Lv Mv<|Lv Mv<|Le (CM ([[(hb,.cells (r.has.flatMap inU).toArray 164 (0,0))]]) fun w hw hs0=>h0▸uHit_c hb t.toNat (r.has.flatMap inU) 164 (r.has.getD t.toNat 0) (hasU_at ht) r.now w hs0) fun _ _=>Lv Nt<|Nl<|Ps<|Cf<|Sk<|Ps<|Sq<|Rg<|Lv Mv<|Lv Av<|Lv Av<|Nl<|Ps<|Rt<|Rt2 fun w' hw=>?_
   refine⟨(),trivial,rfl,?_⟩
   rw[hasU_set] at hw
   have h2:=hw.pick (ss:=[[(rb,.cells (rdC hb r).toArray 257 (0,0))],[(hb,.cells ((r.has.set t.toNat r.now).flatMap inU).toArray 164 (0,0))]]) (by repeat(first|exact .nil|apply Pick.cons|exact .here|apply Ext.there))
   unfold rdS rdC
   rw[List.length_set]
   exact h2
  ·have e1:rEnter r t=r:=if_neg (fun h=>h0 h.2)
   have e2:rEnterE r t=7:=(if_pos ht).trans (if_neg h0)
   have e3:rEnterV r t=0:=if_neg (by rw[e2];decide)
   rw[e1,e2,e3]
   refine V.calls (rdS rb hb r) Tryz.func398 rfl Tryz.ntmps398 (Nat.le_of_ble_eq_true rfl) hs<|Sq<|Rg<|Lv Av<|Lv Av<|Nl<|Ps<|Sq<|Rg<|Lv Mv<|Lv Mv<|Le (CV fun w hw=>rthread_g rb hb r t w (hw.sat.pick (ss:=(rdS rb hb r)) (by repeat(first|exact .nil|apply Pick.cons|exact .here|apply Ext.there)))) fun _ _=>LW.re 10 (.pointer (some ⟨hb,t.toNat,none⟩)) rfl (if_pos ht)<|Lv Av<|Nl<|Ps<|Sq<|Sq<|Rg<|Lv Mv<|Lv EP<|Nl<|Ps<|Cf<|Sk<|Ps<|Sq<|Rg<|Lv Mv<|Le (CV fun w hw=>rnow_g rb hb r w (hw.sat.pick (ss:=(rdS rb hb r)) (by repeat(first|exact .nil|apply Pick.cons|exact .here|apply Ext.there)))) fun _ _=>Lv Av<|Nl<|Ps<|Sq<|Sq<|Rg<|Lv Mv<|Lv Mv<|Le (CV fun w hw=>uMiss_c hb t.toNat (r.has.flatMap inU) 164 (r.has.getD t.toNat 0) (hasU_at ht) 0 r.now h0 w (hw.sat.pick (ss:=[[(hb,.cells (r.has.flatMap inU).toArray 164 (0,0))]]) (by repeat(first|exact .nil|apply Pick.cons|exact .here|apply Ext.there)))) fun _ _=>Lv Nt<|Nl<|Ps<|Ct<|Sq<|Rg<|Lv Av<|Lv Av<|Nl<|Ps<|Rt<|Tr<|Rt2 ?_
   intro w' hw;exact⟨(),trivial,rfl,hw.pick (by repeat(first|exact .nil|apply Pick.cons|exact .here|apply Ext.there))⟩
 ·have e1:rEnter r t=r:=if_neg (fun h=>ht h.1)
  have e2:rEnterE r t=1:=if_neg ht
  have e3:rEnterV r t=0:=if_neg (by rw[e2];decide)
  rw[e1,e2,e3]
  refine V.calls (rdS rb hb r) Tryz.func398 rfl Tryz.ntmps398 (Nat.le_of_ble_eq_true rfl) hs<|Sq<|Rg<|Lv Av<|Lv Av<|Nl<|Ps<|Sq<|Rg<|Lv Mv<|Lv Mv<|Le (CV fun w hw=>rthread_g rb hb r t w (hw.sat.pick (ss:=(rdS rb hb r)) (by repeat(first|exact .nil|apply Pick.cons|exact .here|apply Ext.there)))) fun _ _=>LW.re 10 (.pointer none) rfl (if_neg ht)<|Lv Av<|Nl<|Ps<|Sq<|Sq<|Rg<|Lv Mv<|Lv EP0<|Nl<|Ps<|Ct<|Sq<|Rg<|Lv Av<|Lv Av<|Nl<|Ps<|Rt<|Tr<|Rt2 ?_
  intro w' hw;exact⟨(),trivial,rfl,hw.pick (by repeat(first|exact .nil|apply Pick.cons|exact .here|apply Ext.there))⟩
theorem rleave_g (rb hb:Nat)(r:Rdr)(t:Int)(w:World)(hs:Sat (rdS rb hb r) w):Calls Tryz.prog 411 [.pointer (some ⟨rb,0,none⟩),.int .i64 t].toArray w fun e w'=>∃_u:Unit,True∧e= .returned (.int .i64 (rLeaveE r t))∧Hp ⟨w,V.ids ((rdS rb hb r))⟩ (rdS rb hb (rLeave r t)) w':=by
 by_cases ht:inR r.has t
 ·by_cases h0:r.has.getD t.toNat 0=0
  ·have e1:rLeave r t={r with has:=r.has.set t.toNat 0}:=if_pos ht
   have e2:rLeaveE r t=12:=(if_pos ht).trans (if_pos h0)
   rw[e1,e2]
   refine V.calls (rdS rb hb r) Tryz.func411 rfl Tryz.ntmps411 (Nat.le_of_ble_eq_true rfl) hs<|Sq<|Rg<|Lv Av<|Nl<|Ps<|Sq<|Rg<|Lv Mv<|Lv Mv<|Le (CV fun w hw=>rthread_g rb hb r t w (hw.sat.pick (ss:=(rdS rb hb r)) (by repeat(first|exact .nil|apply Pick.cons|exact .here|apply Ext.there)))) fun _ _=>LW.re 8 (.pointer (some ⟨hb,t.toNat,none⟩)) rfl (if_pos ht)<|Lv Av<|Nl<|Ps<|Sq<|Sq<|Rg<|Lv Mv<|Lv EP<|Nl<|Ps<|Cf<|Sk<|Ps<|Sq<|Sq<|Rg<|Lv Mv<|Le (CM ([[(hb,.cells (r.has.flatMap inU).toArray 164 (0,0))]]) fun w hw hs0=>uSwap_c hb t.toNat (r.has.flatMap inU) 164 (r.has.getD t.toNat 0) (hasU_at ht) 0 w hs0) fun _ _=>Lv Cm<|LW.re 13 (.bool true) rfl (by rw[h0];rfl)<|Nl<|Ps<|Ct<|Sq<|Rg<|Lv Av<|Nl<|Ps<|Rt<|Tr<|Rt1 fun w' hw=>?_
   refine⟨(),trivial,rfl,?_⟩
   rw[hasU_set] at hw
   have h2:=hw.pick (ss:=[[(rb,.cells (rdC hb r).toArray 257 (0,0))],[(hb,.cells ((r.has.set t.toNat 0).flatMap inU).toArray 164 (0,0))]]) (by repeat(first|exact .nil|apply Pick.cons|exact .here|apply Ext.there))
   unfold rdS rdC
   rw[List.length_set]
   exact h2
  ·have e1:rLeave r t={r with has:=r.has.set t.toNat 0}:=if_pos ht
   have e2:rLeaveE r t=0:=(if_pos ht).trans (if_neg h0)
   rw[e1,e2]
   refine V.calls (rdS rb hb r) Tryz.func411 rfl Tryz.ntmps411 (Nat.le_of_ble_eq_true rfl) hs<|Sq<|Rg<|Lv Av<|Nl<|Ps<|Sq<|Rg<|Lv Mv<|Lv Mv<|Le (CV fun w hw=>rthread_g rb hb r t w (hw.sat.pick (ss:=(rdS rb hb r)) (by repeat(first|exact .nil|apply Pick.cons|exact .here|apply Ext.there)))) fun _ _=>LW.re 8 (.pointer (some ⟨hb,t.toNat,none⟩)) rfl (if_pos ht)<|Lv Av<|Nl<|Ps<|Sq<|Sq<|Rg<|Lv Mv<|Lv EP<|Nl<|Ps<|Cf<|Sk<|Ps<|Sq<|Sq<|Rg<|Lv Mv<|Le (CM ([[(hb,.cells (r.has.flatMap inU).toArray 164 (0,0))]]) fun w hw hs0=>uSwap_c hb t.toNat (r.has.flatMap inU) 164 (r.has.getD t.toNat 0) (hasU_at ht) 0 w hs0) fun _ _=>Lv Cm<|LW.re 13 (.bool false) rfl (by rw[beq_eq_false_iff_ne.2 h0])<|Nl<|Ps<|Cf<|Sk<|Ps<|Sq<|Rg<|Lv Av<|Nl<|Ps<|Rt<|Rt1 fun w' hw=>?_
   refine⟨(),trivial,rfl,?_⟩
   rw[hasU_set] at hw
   have h2:=hw.pick (ss:=[[(rb,.cells (rdC hb r).toArray 257 (0,0))],[(hb,.cells ((r.has.set t.toNat 0).flatMap inU).toArray 164 (0,0))]]) (by repeat(first|exact .nil|apply Pick.cons|exact .here|apply Ext.there))
   unfold rdS rdC
   rw[List.length_set]
   exact h2
 ·have e1:rLeave r t=r:=if_neg ht
  have e2:rLeaveE r t=1:=if_neg ht
  rw[e1,e2]
  refine V.calls (rdS rb hb r) Tryz.func411 rfl Tryz.ntmps411 (Nat.le_of_ble_eq_true rfl) hs<|Sq<|Rg<|Lv Av<|Nl<|Ps<|Sq<|Rg<|Lv Mv<|Lv Mv<|Le (CV fun w hw=>rthread_g rb hb r t w (hw.sat.pick (ss:=(rdS rb hb r)) (by repeat(first|exact .nil|apply Pick.cons|exact .here|apply Ext.there)))) fun _ _=>LW.re 8 (.pointer none) rfl (if_neg ht)<|Lv Av<|Nl<|Ps<|Sq<|Sq<|Rg<|Lv Mv<|Lv EP0<|Nl<|Ps<|Ct<|Sq<|Rg<|Lv Av<|Nl<|Ps<|Rt<|Tr<|Rt1 ?_
  intro w' hw;exact⟨(),trivial,rfl,hw.pick (by repeat(first|exact .nil|apply Pick.cons|exact .here|apply Ext.there))⟩
end G
end Go.Proofs.YtpjmdbifacijoaaGreatDoor
namespace Go.Proofs.YtpjmdbifacijoaaGreatDoor
open Go Go.RowKit V
set_option linter.unusedVariables false
set_option maxRecDepth 100000
namespace G
open V (str byC ownV ownG ownS ownOk)
theorem splice_mid0:∀(cs p l r:List Value),l.length=cs.length→V.splice (p++(l++r)) p.length cs=p++(cs++r)
 |[],p,l,r,h=>by
  have:l=[]:=List.length_eq_zero_iff.1 h
  subst this;simp[V.splice]
 |c::cs,p,l,r,h=>by
  cases l with
  |nil=>simp at h
  |cons x l=>
   simp only[V.splice,List.cons_append,List.set_append_right _ _ (Nat.le_refl _),Nat.sub_self,List.set_cons_zero]
   have:=splice_mid0 cs (p++[c]) l r (by simpa using h)
   simpa using this
structure Ck where
 now:Int
 dur:Int
 clo:Int
 owed:List Int
 noted:List Bool
 left:List Bool
 ph:Nat
def stV (cb:Nat):Nat→Value
 |0=> .nilFunc
 |1=> .func (.func 317) #[.pointer (some ⟨cb,0,none⟩)] #[]
 |2=> .func (.func 373) #[.pointer (some ⟨cb,0,none⟩)] #[]
 |3=> .func (.func 415) #[.pointer (some ⟨cb,0,none⟩)] #[]
 |_=> .func (.func 450) #[.pointer (some ⟨cb,0,none⟩)] #[]
theorem oneB (b:Bool):(Value.bool b).oneCell'=true:=rfl
theorem oneI (k:IntKind)(i:Int):(Value.int k i).oneCell'=true:=rfl
def ckk (cb:Nat)(c:Ck):Ckk:=⟨c.now,c.dur,c.clo,c.owed,c.noted,c.left,stV cb c.ph⟩
abbrev kS (cb wb:Nat)(c:Ck):Sg:=ckS cb wb (ckk cb c)
def kC (cb wb:Nat)(c:Ck):List Value:=ckC wb (ckk cb c)
def Ck.Ok (th:Nat)(c:Ck):Prop:=c.owed.length=th∧c.noted.length=258∧c.left.length=258
theorem owI_at {l:List Int}{t:Nat}(h:t<l.length):(l.flatMap inI)[t]? =some (.int .i64 (l.getD t 0)):=by
 rw[inI_map,List.getElem?_map,List.getElem?_eq_getElem h,List.getD_eq_getElem?_getD,List.getElem?_eq_getElem h]
 rfl
theorem owI_set (l:List Int)(t:Nat)(v:Int):(l.flatMap inI).set t (.int .i64 v)=(l.set t v).flatMap inI:=by rw[inI_map,inI_map,List.map_set]
theorem kC_len {cb wb th:Nat}{c:Ck}(h:c.Ok th):(kC cb wb c).length=521:=by
 unfold kC ckC ckk
 simp only[List.length_cons,List.length_append,List.length_map,h.2.1,h.2.2,List.length_nil]
theorem kC_note {cb wb th:Nat}{c:Ck}(h:c.Ok th)(k:Nat)(hk:k<258)(b:Bool):(kC cb wb c).set (4+k) (.bool b)=kC cb wb {c with noted:=c.noted.set k b}:=by
 have e:kC cb wb c=[.int .u64 c.now,.int .u64 c.dur,.int .u64 c.clo,.slice (some ⟨wb,0,none⟩) c.owed.length c.owed.length]++(c.noted.map Value.bool++(c.left.map Value.bool++[stV cb c.ph])):=rfl
 rw[e,List.set_append_right _ _ (by simp),show 4+k- [Value.int .u64 c.now,.int .u64 c.dur,.int .u64 c.clo,.slice (some ⟨wb,0,none⟩) c.owed.length c.owed.length].length=k by simp,List.set_append_left _ _ (by rw[List.length_map,h.2.1];exact hk),← List.map_set]
 rfl
def kNoteE (c:Ck)(t line:Int):Int:=if inR c.owed t then(if 0≤line∧line<258 then 0 else 2) else 1
def kNote (c:Ck)(t line:Int):Ck:=if kNoteE c t line=0 then {c with owed:=c.owed.set t.toNat (IntKind.i64.wrap (c.owed.getD t.toNat 0+1)),noted:=c.noted.set line.toNat true} else c
def Ck.Ph (c:Ck):Prop:=(c.clo=0↔c.ph=0)∧c.ph≤4
theorem kNote_ok {th:Nat}{c:Ck}(h:c.Ok th)(t line:Int):(kNote c t line).Ok th:=by unfold kNote;split;exact⟨by simp[h.1],by simp[h.2.1],h.2.2⟩;exact h
theorem know_g (cb wb:Nat)(c:Ck)(w:World)(hs:Sat (kS cb wb c) w):Calls Tryz.prog 96 [.pointer (some ⟨cb,0,none⟩)].toArray w fun e w'=>e= .returned (.int .u64 c.now)∧Below w.heap.size w w':=by
 refine V.calls (kS cb wb c) Tryz.func96 rfl Tryz.ntmps96 (Nat.le_of_ble_eq_true rfl) hs<|Sq<|Rg<|Lv Av<|Nl<|Ps<|Sq<|Sq<|Rg<|Lv Mv<|Lv EP<|Nl<|Ps<|Cf<|Sk<|Ps<|Sq<|Rg<|Lv Mv<|Lv Nz<|Lv (Fa 0 164)<|Le (CV fun w hw=>uLd_c cb 0 (kC cb wb c) 237 c.now w rfl (hw.sat.pick (ss:=[[(cb,.cells (kC cb wb c).toArray 237 (0,0))]]) (by repeat(first|exact .nil|apply Pick.cons|exact .here|apply Ext.there)))) fun _ _=>Lv Av<|Nl<|Ps<|Rt<|Rt1 ?_
 intro w' hw;exact⟨rfl,hw.ro (by repeat(first|exact .nil|apply Pick.cons|exact .here|apply Ext.there)) hs⟩
theorem kdur_g (cb wb:Nat)(c:Ck)(w:World)(hs:Sat (kS cb wb c) w):Calls Tryz.prog 97 [.pointer (some ⟨cb,0,none⟩)].toArray w fun e w'=>e= .returned (.int .u64 c.dur)∧Below w.heap.size w w':=by
 refine V.calls (kS cb wb c) Tryz.func97 rfl Tryz.ntmps97 (Nat.le_of_ble_eq_true rfl) hs<|Sq<|Rg<|Lv Av<|Nl<|Ps<|Sq<|Sq<|Rg<|Lv Mv<|Lv EP<|Nl<|Ps<|Cf<|Sk<|Ps<|Sq<|Rg<|Lv Mv<|Lv Nz<|Lv (Fa 1 164)<|Le (CV fun w hw=>uLd_c cb 1 (kC cb wb c) 237 c.dur w rfl (hw.sat.pick (ss:=[[(cb,.cells (kC cb wb c).toArray 237 (0,0))]]) (by repeat(first|exact .nil|apply Pick.cons|exact .here|apply Ext.there)))) fun _ _=>Lv Av<|Nl<|Ps<|Rt<|Rt1 ?_
 intro w' hw;exact⟨rfl,hw.ro (by repeat(first|exact .nil|apply Pick.cons|exact .here|apply Ext.there)) hs⟩
theorem knote_g (cb wb:Nat)(c:Ck)(th:Nat)(hk:c.Ok th)(t line:Int)(w:World)(hs:Sat (kS cb wb c) w):Calls Tryz.prog 377 [.pointer (some ⟨cb,0,none⟩),.int .i64 t,.int .i64 line].toArray w fun e w'=>∃_u:Unit,True∧e= .returned (.int .i64 (kNoteE c t line))∧Hp ⟨w,V.ids ((kS cb wb c))⟩ (kS cb wb (kNote c t line)) w':=by
 have hck:(ckk cb c).owed.length=c.owed.length:=rfl
 refine V.calls (kS cb wb c) Tryz.func377 rfl Tryz.ntmps377 (Nat.le_of_ble_eq_true rfl) hs<|Sq<|Rg<|Lv Av<|Nl<|Ps<|Sq<|Sq<|Rg<|Lv Mv<|Lv EP<|Lv Mv<|Lv Mv<|Lv Cm<|Lv Pf<|Lv Mv ?_
 refine LW.split (d:=13) rfl (fun h13=>?_) (fun h13=>?_)
 ·replace h13:=bT h13
  refine Lp<|Lp<|Lp<|Lp<|Lp<|Lp<|Lp<|Lv Pt<|Nl<|Ps<|Ct<|Sq<|Rg<|Lv Av<|Nl<|Ps<|Rt<|Tr<|Rt1 ?_
  have e0:kNoteE c t line=1:=if_neg (by unfold inR;omega)
  have e1:kNote c t line=c:=if_neg (by rw[e0];decide)
  rw[e0,e1]
  intro w' hw;exact⟨(),trivial,rfl,hw.pick (by repeat(first|exact .nil|apply Pick.cons|exact .here|apply Ext.there))⟩
 ·replace h13:=bF h13
  refine Lv Mv<|Lv Mv<|Lv Nz<|Lv (Fa 3 109)<|Lv Ld<|Lv Ln<|Lv Cm<|Lv Pf<|Nl<|Ps ?_
  refine CW.cond rfl (fun h21=>?_) (fun h21=>?_)
  ·replace h21:=bT h21
   refine Sq<|Rg<|Lv Av<|Nl<|Ps<|Rt<|Tr<|Rt1 ?_
   have e0:kNoteE c t line=1:=if_neg (by unfold inR;omega)
   have e1:kNote c t line=c:=if_neg (by rw[e0];decide)
   rw[e0,e1]
   intro w' hw;exact⟨(),trivial,rfl,hw.pick (by repeat(first|exact .nil|apply Pick.cons|exact .here|apply Ext.there))⟩
  ·replace h21:=bF h21
   refine Sk<|Ps<|Sq<|Sq<|Rg<|Lv Mv<|Lv Cm<|Lv Mv ?_
   refine LW.split (d:=24) rfl (fun h24=>?_) (fun h24=>?_)
   ·replace h24:=bT h24
    refine Lp<|Lp<|Lv Pt<|Nl<|Ps<|Ct<|Sq<|Rg<|Lv Av<|Nl<|Ps<|Rt<|Tr<|Rt1 ?_
    have e0:kNoteE c t line=2:=(if_pos (by unfold inR;omega)).trans (if_neg (by omega))
    have e1:kNote c t line=c:=if_neg (by rw[e0];decide)
    rw[e0,e1]
    intro w' hw;exact⟨(),trivial,rfl,hw.pick (by repeat(first|exact .nil|apply Pick.cons|exact .here|apply Ext.there))⟩
   ·replace h24:=bF h24
    refine Lv Mv<|Lv Cm<|Lv Pf<|Nl<|Ps ?_
    refine CW.cond rfl (fun h27=>?_) (fun h27=>?_)
    ·replace h27:=bT h27
     refine Sq<|Rg<|Lv Av<|Nl<|Ps<|Rt<|Tr<|Rt1 ?_
     have e0:kNoteE c t line=2:=(if_pos (by unfold inR;omega)).trans (if_neg (by omega))
     have e1:kNote c t line=c:=if_neg (by rw[e0];decide)
     rw[e0,e1]
     intro w' hw;exact⟨(),trivial,rfl,hw.pick (by repeat(first|exact .nil|apply Pick.cons|exact .here|apply Ext.there))⟩
    ·replace h27:=bF h27
     have ht:inR c.owed t:=by unfold inR;omega
     have htl:t.toNat<c.owed.length:=by unfold inR at ht;omega
     obtain⟨tn,rfl⟩:=Int.eq_ofNat_of_zero_le ht.1
     obtain⟨ln,rfl⟩:=Int.eq_ofNat_of_zero_le (show 0≤line by omega)
     simp only[Int.toNat_natCast] at htl⊢
     refine Sk<|Ps<|Sq<|Rg<|Lv Mv<|Lv Nz<|Lv (Fa 3 109)<|Lv Ld<|Lv Mv<|Lv (Val.indexAddrN (i:=tn) rfl rfl Tryz.underlying109 Tryz.sizeOf3 (by omega))<|Lv (Ld (v:= .int .i64 (c.owed.getD tn 0)) (hl:=by rw[Nat.zero_add,Nat.mul_one];exact owI_at htl))<|Lv (Val.arw rfl rfl rfl)<|Lv (Val.indexAddrN (i:=tn) rfl rfl Tryz.underlying109 Tryz.sizeOf3 (by omega))<|LeN (Eff.storeX (v:= .int .i64 (IntKind.i64.wrap (c.owed.getD tn 0+1))) (l:=c.owed.flatMap inI) (l':=(c.owed.set tn (IntKind.i64.wrap (c.owed.getD tn 0+1))).flatMap inI) rfl rfl rfl (by repeat(first|exact .here|exact .inner .here|exact .inner (.inner .here)|apply Upd.there)) (by rw[Nat.zero_add,Nat.mul_one];exact owI_set _ _ _) (by rw[Nat.zero_add,Nat.mul_one,inI_map,List.length_map];exact htl) Tryz.sizeOf3) fun _ _=>Nl<|Ps<|Sq<|Rg<|Lv Mv<|Lv Mv<|Lv Nz<|Lv (Fa 4 234)<|Lv (Val.indexAddrA (i:=ln) rfl rfl Tryz.underlying234 Tryz.sizeOf4 (by omega))<|LeN (Eff.storeX (v:= .bool true) (l:=kC cb wb c) (l':=kC cb wb {c with noted:=c.noted.set ln true}) rfl rfl rfl (by repeat(first|exact .here|exact .inner .here|exact .inner (.inner .here)|apply Upd.there)) (by have h8:=kC_note (cb:=cb) (wb:=wb) hk ln (by omega) true;simpa using h8) (by rw[kC_len hk];omega) Tryz.sizeOf4) fun _ _=>Nl<|Ps<|Sq<|Rg<|Lv Av<|Nl<|Ps<|Rt<|Rt1 ?_
     have e0:kNoteE c (tn:Nat) (ln:Nat)=0:=(if_pos ht).trans (if_pos (by omega))
     have e1:kNote c (tn:Nat) (ln:Nat)={c with owed:=c.owed.set tn (IntKind.i64.wrap (c.owed.getD tn 0+1)),noted:=c.noted.set ln true}:=if_pos e0
     rw[e0,e1]
     have e2:kC cb wb {c with noted:=c.noted.set ln true}=kC cb wb {c with owed:=c.owed.set tn (IntKind.i64.wrap (c.owed.getD tn 0+1)),noted:=c.noted.set ln true}:=by unfold kC ckC ckk;simp only[List.length_set]
     rw[e2]
     intro w' hw;exact⟨(),trivial,rfl,hw.pick (ss:=[[(cb,.cells (kC cb wb {c with owed:=c.owed.set tn (IntKind.i64.wrap (c.owed.getD tn 0+1)),noted:=c.noted.set ln true}).toArray 237 (0,0))],[(wb,.cells ((c.owed.set tn (IntKind.i64.wrap (c.owed.getD tn 0+1))).flatMap inI).toArray 3 (0,0))]]) (by repeat(first|exact .nil|apply Pick.cons|exact .here|apply Ext.there))⟩
theorem kowed_g (cb wb:Nat)(c:Ck)(th:Nat)(h4:th≤1000)(hk:c.Ok th)(w:World)(hs:Sat (kS cb wb c) w):Calls Tryz.prog 404 [.pointer (some ⟨cb,0,none⟩)].toArray w fun e w'=>∃o:V.OwnO,ownOk 1 c.owed.length (c.owed.flatMap inI) o∧e= .returned (ownV c.owed.length o)∧Hp ⟨w,[]⟩ ([ownG 3 (c.owed.flatMap inI) o]) w':=by
 refine V.calls [] Tryz.func404 rfl Tryz.ntmps404 (Nat.le_of_ble_eq_true rfl) (V.sat_nil _)<|Sq<|Rg<|Lv Av<|Nl<|Ps<|Sq<|Sq<|Rg<|Lv Mv<|Lv EP<|Nl<|Ps<|Cf<|Sk<|Ps<|Sq<|Rg<|Le (Eff.buildSlice0 Tryz.underlying109 Tryz.sizeOf3) fun b5 _=>Lv Mv<|Lv Nz<|Lv (Fa 3 109)<|Lv (Val.loadO rfl Tryz.isAgg109 (hs.lt (k:=cb) (by simp[V.ids,ckS])) (by simp[V.ids]) (V.cell_of_block (o:=3) (hs.own (cb,.cells (kC cb wb c).toArray 237 (0,0)) (by simp[ckS,kC])) rfl))<|Le (Eff.appendAny (c.owed.flatMap inI) (sz:=1) (bytes:=8) (z:= .int .i64 0) (xs:=[]) (m0:=0) (o:=some (b5,[],0)) (m:=c.owed.length) (pk:=[ownG 3 [] (some (b5,[],0))]) rfl rfl Tryz.underlying109 (by kernel_rfl) rfl (by omega) (by repeat(first|exact .nil|apply Pick.cons|exact .here|apply Ext.there)) (by simp) ⟨rfl,rfl⟩ (by rw[V.flatMap_len inI_len]) (fun hm0=>⟨wb,0,rfl,fun w' hw=>(by have h1:=hw.below;exact V.range_of_block (o:=0) (cs:=c.owed.flatMap inI) (r:=[]) ((hs.below h1).own (wb,.cells (c.owed.flatMap inI).toArray 3 (0,0)) (by simp[ckS,ckk])) (by simp))⟩) (by rw[inI_map];simp[oneI]) (by have:=hk.1;omega) (by have:=hk.1;omega)) fun o2 ho2=>?_
 rw[Nat.zero_add,List.nil_append] at ho2
 refine Lv Av<|Nl<|Ps<|Rt<|Rt1 ?_
 intro w' hw;exact⟨o2,ho2,by rw[Nat.zero_add],hw.pick (by repeat(first|exact .nil|apply Pick.cons|exact .here|apply Ext.there))⟩
instance:Und Tryz.prog 244 (dOf Tryz.underlying244):=⟨Tryz.underlying244⟩
instance:Siz Tryz.prog 244 (kOf Tryz.sizeOf244):=⟨Tryz.sizeOf244⟩
instance:AgT Tryz.prog 244:=⟨Tryz.isAgg244⟩
instance:Zer Tryz.prog 244 (zOf Tryz.zeroValue244):=⟨Tryz.zeroValue244⟩
instance:Cal Tryz.prog 420:=⟨Tryz.call420⟩
def enV (x:Ent):Value:= .agg (enC x).toArray
def en0:Ent:=⟨0,0,0,0,0⟩
def mayE (x:Ent):Prop:=2≤x.line∧x.line<258∧0≤x.cls∧x.cls≤3∧ -1≤x.anti∧x.anti<258
instance (x:Ent):Decidable (mayE x):=inferInstanceAs (Decidable (_∧_))
def bPut (l:List Ent)(x:Ent):List Ent:=if mayE x∧l.length<258 then l++[x] else l
def bPutE (l:List Ent)(x:Ent):Int:=if mayE x then(if l.length<258 then 0 else 11) else 1
theorem mayE_b {b:Bool}{x:Ent}(h:b=true↔mayE x):b=decide (mayE x):=by rw[Bool.eq_iff_iff,decide_eq_true_iff];exact h
theorem span_pos (c:Int):0<spanF c↔0≤c∧c≤3:=by
 rcases spanF_cases c with⟨h,h2⟩|⟨h,h2⟩|⟨h,h2⟩|⟨h,h2⟩|⟨h,h2⟩<;>rw[h2]<;>omega
theorem bmay_c (x:Ent)(w:World):Calls Tryz.prog 420 [enV x].toArray w fun e w'=>e= .returned (.bool (decide (mayE x)))∧Below w.heap.size w w':=by
 have hsp8:=span_pos x.cls
 refine V.calls [] Tryz.func420 rfl Tryz.ntmps420 (Nat.le_of_ble_eq_true rfl) (V.sat_nil _)<|Sq<|Rg<|Le XA fun b1 _=>Lv Av<|Nl<|Ps<|Sq<|Rg<|Lv (Fa 0 3)<|Lv Ld<|Lv Cm<|Lv Mv ?_
 refine LW.split (d:=6) rfl (fun h6=>?_) (fun h6=>?_)
 ·replace h6:=bT h6
  refine Lv (Fa 0 3)<|Lv Ld<|Lv Cm<|Lv Pt<|Lv Mv ?_
  refine LW.split (d:=11) rfl (fun h11=>?_) (fun h11=>?_)
  ·replace h11:=bT h11
   refine Lv (Fa 1 3)<|Lv Ld<|Le (CV fun w hw=>span_c x.cls w) fun _ _=>Lv Cm<|Lv Pt<|Lv Mv ?_
   refine LW.split (d:=17) rfl (fun h17=>?_) (fun h17=>?_)
   ·replace h17:=bT h17
    refine Lv (Fa 4 3)<|Lv Ld<|Lv Cm<|Lv Pt<|Lv Mv ?_
    refine LW.split (d:=22) rfl (fun h22=>?_) (fun h22=>?_)
    ·replace h22:=bT h22
     refine Lv (Fa 4 3)<|Lv Ld<|Lv Cm<|Lv Pt<|Lv Av<|Nl<|Ps<|Rt<|Rt1 fun w' hw=>?_
     refine⟨?_,hw.below⟩
     congr 2
     refine mayE_b ?_
     unfold mayE
     simp only[decide_eq_true_eq,Bool.false_eq_true,false_iff]
     omega
    ·replace h22:=bF h22
     refine Lp<|Lp<|Lp<|Lv Pf<|Lv Av<|Nl<|Ps<|Rt<|Rt1 fun w' hw=>?_
     refine⟨?_,hw.below⟩
     congr 2
     refine mayE_b ?_
     unfold mayE
     simp only[decide_eq_true_eq,Bool.false_eq_true,false_iff]
     omega
   ·replace h17:=bF h17
    refine Lp<|Lp<|Lp<|Lv Pf<|Lv Mv<|Lp<|Lp<|Lp<|Lv Pf<|Lv Av<|Nl<|Ps<|Rt<|Rt1 fun w' hw=>?_
    refine⟨?_,hw.below⟩
    congr 2
    refine mayE_b ?_
    unfold mayE
    simp only[decide_eq_true_eq,Bool.false_eq_true,false_iff]
    omega
  ·replace h11:=bF h11
   refine Lp<|Lp<|Lp<|Lp<|Lv Pf<|Lv Mv<|Lp<|Lp<|Lp<|Lv Pf<|Lv Mv<|Lp<|Lp<|Lp<|Lv Pf<|Lv Av<|Nl<|Ps<|Rt<|Rt1 fun w' hw=>?_
   refine⟨?_,hw.below⟩
   congr 2
   refine mayE_b ?_
   unfold mayE
   simp only[decide_eq_true_eq,Bool.false_eq_true,false_iff]
   omega
 ·replace h6:=bF h6
  refine Lp<|Lp<|Lp<|Lv Pf<|Lv Mv<|Lp<|Lp<|Lp<|Lp<|Lv Pf<|Lv Mv<|Lp<|Lp<|Lp<|Lv Pf<|Lv Mv<|Lp<|Lp<|Lp<|Lv Pf<|Lv Av<|Nl<|Ps<|Rt<|Rt1 fun w' hw=>?_
  refine⟨?_,hw.below⟩
  congr 2
  refine mayE_b ?_
  unfold mayE
  simp only[decide_eq_true_eq,Bool.false_eq_true,false_iff]
  omega
theorem bput_g (b:Nat)(o:V.OwnO)(l:List Ent)(hk:ownOk 5 l.length (l.flatMap enC) o)(hl:l.length≤100000)(x:Ent)(w:World)(hs:Sat (bgS b l o) w):Calls Tryz.prog 379 [.pointer (some ⟨b,0,none⟩),enV x].toArray w fun e w'=>∃o':V.OwnO,ownOk 5 (bPut l x).length ((bPut l x).flatMap enC) o'∧e= .returned (.int .i64 (bPutE l x))∧Hp ⟨w,V.ids ((bgS b l o))⟩ (bgS b (bPut l x) o') w':=by
 refine V.calls (bgS b l o) Tryz.func379 rfl Tryz.ntmps379 (Nat.le_of_ble_eq_true rfl) hs<|Sq<|Rg<|Le XA fun b3 _=>Lv Av<|Nl<|Ps<|Sq<|Sq<|Rg<|Lv Mv<|Lv EP<|Lv Mv<|Lv Lw<|Le (CV fun w hw=>bmay_c x w) fun _ _=>Lv Nt<|Lv Pf<|Nl<|Ps ?_
 refine CW.cond rfl (fun h11=>?_) (fun h11=>?_)
 ·replace h11:=bT h11
  have hm:¬mayE x:=by simpa using h11
  refine Sq<|Rg<|Lv Av<|Nl<|Ps<|Rt<|Tr<|Rt1 ?_
  have e1:bPut l x=l:=if_neg (fun h=>hm h.1)
  have e2:bPutE l x=1:=if_neg hm
  rw[e1,e2]
  intro w' hw;exact⟨o,hk,rfl,hw.pick (by repeat(first|exact .nil|apply Pick.cons|exact .here|apply Ext.there))⟩
 ·replace h11:=bF h11
  have hm:mayE x:=by simpa using h11
  refine Sk<|Ps<|Sq<|Sq<|Rg<|Lv Mv<|Lv Nz<|Lv (Fa 0 241)<|Lv Ld<|Lv (Val.lenOwn rfl Tryz.underlying241 hk)<|Lv Cm<|Nl<|Ps ?_
  refine CW.cond rfl (fun h17=>?_) (fun h17=>?_)
  ·replace h17:=bT h17
   refine Sq<|Rg<|Lv Av<|Nl<|Ps<|Rt<|Tr<|Rt1 ?_
   have e1:bPut l x=l:=if_neg (fun h=>by omega)
   have e2:bPutE l x=11:=(if_pos hm).trans (if_neg (by omega))
   rw[e1,e2]
   intro w' hw;exact⟨o,hk,rfl,hw.pick (by repeat(first|exact .nil|apply Pick.cons|exact .here|apply Ext.there))⟩
  ·replace h17:=bF h17
   refine Sk<|Ps<|Sq<|Dr ([[(b3,.cells (enC x).toArray 244 (0,0))]])<|Rv 0 rfl Mv<|Rv 1 rfl Mv<|Rv 2 rfl Nz<|Rv 3 rfl (Fa 0 241)<|Rv 5 rfl Lw<|RW.any [4,6] (by kernel_rfl) (by simp) fun i hi=>?_
   simp only[List.mem_cons,List.not_mem_nil,or_false] at hi
   rcases hi with rfl|rfl
   ·refine Ro rfl (Eff.ofVal (Ld (v:=ownV l.length o))) fun _ _=>Re 6 rfl (Eff.buildSlice (rfl) [_,_,_,_,_] Tryz.underlying241 Tryz.sizeOf244 (by exact Tryz.zeroValue244) rfl rfl rfl rfl (by rfl)) fun b24 _=>Re 7 rfl (Eff.appendAny (enC x) (sz:=5) (bytes:=40) (z:= .agg #[.int .i64 0,.int .i64 0,.int .u64 0,.int .u64 0,.int .i64 0]) (xs:=l.flatMap enC) (m0:=l.length) (o:=o) (m:=1) (pk:=[ownG 244 (l.flatMap enC) (o)]) rfl rfl Tryz.underlying241 (by kernel_rfl) rfl (by omega) (by repeat(first|exact .nil|apply Pick.cons|exact .here|apply Ext.there)) (by simp) hk (by rfl) (fun hm0=>⟨b24,0,rfl,fun w hw=>V.range_of_block (o:=0) (cs:=enC x) (r:=[]) (hw.own _ (show InS (b24,.cells (enC x).toArray 244 (0,0)) _ from(by repeat(first|exact .here|exact .inner .here|exact .inner (.inner .here)|refine .there ?_))).mem) rfl⟩) (by rfl) (by omega) (by omega)) fun o2 ho2=>Rv 8 rfl Nz<|Rv 9 rfl (Fa 0 241)<|ReN 10 rfl (StS (h1:=V.ownV_one _ _)) fun _ _=>Rd<|Ps<|Sq<|Rg<|Lv Av<|Nl<|Ps<|Rt<|Rt1 ?_
    have e1:bPut l x=l++[x]:=if_pos ⟨hm,by omega⟩
    have e2:bPutE l x=0:=(if_pos hm).trans (if_pos (by omega))
    rw[e1,e2]
    have ea:(l++[x]).flatMap enC=l.flatMap enC++enC x:=by simp
    have el:(l++[x]).length=l.length+1:=by simp
    unfold bgS
    rw[ea,el]
    intro w' hw;exact⟨o2,ho2,rfl,hw.pick (by repeat(first|exact .nil|apply Pick.cons|exact .here|apply Ext.there))⟩
   ·refine Ro rfl (Eff.buildSlice (rfl) [_,_,_,_,_] Tryz.underlying241 Tryz.sizeOf244 (by exact Tryz.zeroValue244) rfl rfl rfl rfl (by rfl)) fun b24 _=>Re 4 rfl (Eff.ofVal (Ld (v:=ownV l.length o))) fun _ _=>Re 7 rfl (Eff.appendAny (enC x) (sz:=5) (bytes:=40) (z:= .agg #[.int .i64 0,.int .i64 0,.int .u64 0,.int .u64 0,.int .i64 0]) (xs:=l.flatMap enC) (m0:=l.length) (o:=o) (m:=1) (pk:=[ownG 244 (l.flatMap enC) (o)]) rfl rfl Tryz.underlying241 (by kernel_rfl) rfl (by omega) (by repeat(first|exact .nil|apply Pick.cons|exact .here|apply Ext.there)) (by simp) hk (by rfl) (fun hm0=>⟨b24,0,rfl,fun w hw=>V.range_of_block (o:=0) (cs:=enC x) (r:=[]) (hw.own _ (show InS (b24,.cells (enC x).toArray 244 (0,0)) _ from(by repeat(first|exact .here|exact .inner .here|exact .inner (.inner .here)|refine .there ?_))).mem) rfl⟩) (by rfl) (by omega) (by omega)) fun o2 ho2=>Rv 8 rfl Nz<|Rv 9 rfl (Fa 0 241)<|ReN 10 rfl (StS (h1:=V.ownV_one _ _)) fun _ _=>Rd<|Ps<|Sq<|Rg<|Lv Av<|Nl<|Ps<|Rt<|Rt1 ?_
    have e1:bPut l x=l++[x]:=if_pos ⟨hm,by omega⟩
    have e2:bPutE l x=0:=(if_pos hm).trans (if_pos (by omega))
    rw[e1,e2]
    have ea:(l++[x]).flatMap enC=l.flatMap enC++enC x:=by simp
    have el:(l++[x]).length=l.length+1:=by simp
    unfold bgS
    rw[ea,el]
    intro w' hw;exact⟨o2,ho2,rfl,hw.pick (by repeat(first|exact .nil|apply Pick.cons|exact .here|apply Ext.there))⟩
theorem places244:∀w,((Array.mapM (fun(f:Field)=>do pure (f.offset,← sizeOf f.type)) (Tryz.prog.fieldsOf 244):Sem (Array (Nat×Nat)))).run Tryz.prog w= .ok [(0,1),(1,1),(2,1),(3,1),(4,1)].toArray w:=by
 intro w;kernel_rfl
instance:Plc Tryz.prog 244 (fOf Tryz.underlying244) (lOf (P:=Tryz.prog) places244):=⟨places244,Tryz.underlying244⟩
instance:Cal Tryz.prog 193:=⟨Tryz.call193⟩
theorem en_one (l:List Ent):(l.flatMap enC).all (·.oneCell')=true:=by
 induction l with
 |nil=>rfl
 |cons f r ih=>rw[List.flatMap_cons,List.all_append,ih];rfl
theorem cloneEn_c (l:List Ent)(p:Option Addr)(c:Nat)(hl:l.length≤100000)(w:World)(h:V.slAt w p 5 enC l):Calls Tryz.prog 193 [.slice p l.length c].toArray w fun e w'=>∃o:V.OwnO,ownOk 5 l.length (l.flatMap enC) o∧e= .returned (ownV l.length o)∧Hp ⟨w,[]⟩ [ownG 244 (l.flatMap enC) o] w':=by
 haveI:Inhabited Ent:=⟨en0⟩
 refine V.calls [] Tryz.func193 rfl Tryz.ntmps193 (Nat.le_of_ble_eq_true rfl) (V.sat_nil _)<|Sq<|Rg<|Lv Av<|Nl<|Ps<|Sq<|Sq<|Rg<|Lv Mv<|Lv (Val.eqSlNil rfl rfl Tryz.underlying241)<|Nl<|Ps ?_
 refine CW.cond rfl (fun h4=>?_) (fun h4=>?_)
 ·replace h4:=bT h4
  have hpn:p=none:=by cases p with|none=>rfl|some q=>simp at h4
  obtain rfl:l=[]:=by
   rcases h with h|⟨b,o,h,_⟩
   ·exact h
   ·rw[hpn] at h;cases h
  refine Sq<|Rg<|Lv Av<|Nl<|Ps<|Rt<|Tr<|Rt1 ?_
  intro w' hw;exact⟨none,⟨rfl,rfl⟩,rfl,hw.perm (.refl _)⟩
 ·replace h4:=bF h4
  refine Sk<|Ps<|Sq<|Rg<|Le (Eff.buildSlice0 Tryz.underlying241 Tryz.sizeOf244) fun b5 _=>Lv Mv<|Le (Eff.appendAny (l.flatMap enC) (sz:=5) (bytes:=40) (z:= .agg #[.int .i64 0,.int .i64 0,.int .u64 0,.int .u64 0,.int .i64 0]) (xs:=[]) (m0:=0) (o:=some (b5,[],0)) (m:=l.length) (pk:=[ownG 244 [] (some (b5,[],0))]) rfl rfl Tryz.underlying241 (by kernel_rfl) rfl (by omega) (by repeat(first|exact .nil|apply Pick.cons|exact .here|apply Ext.there)) (by simp) ⟨rfl,rfl⟩ (V.flatMap_len enC_len _) (fun hm0=>by obtain⟨b8,o8,h8,h9⟩:=sl_range (F:=[]) enC_len h hm0 (by simp);exact⟨b8,o8,h8,fun w1 hw1=>h9 w1 hw1⟩) (en_one l) (by omega) (by omega)) fun o2 ho2=>?_
  have h2:ownOk 5 l.length (l.flatMap enC) o2:=by simpa using ho2
  rw[List.nil_append,Nat.zero_add]
  refine Lv Av<|Nl<|Ps<|Rt<|Rt1 ?_
  intro w' hw;exact⟨o2,h2,rfl,hw.pick (by repeat(first|exact .nil|apply Pick.cons|exact .here|apply Ext.there))⟩
theorem ball_g (b:Nat)(o:V.OwnO)(l:List Ent)(hk:ownOk 5 l.length (l.flatMap enC) o)(hl:l.length≤100000)(w:World)(hs:Sat (bgS b l o) w):Calls Tryz.prog 148 [.pointer (some ⟨b,0,none⟩)].toArray w fun e w'=>∃y:V.OwnO,ownOk 5 l.length (l.flatMap enC) y∧e= .returned (ownV l.length y)∧Hp ⟨w,V.ids ((bgS b l o))⟩ (ownG 244 (l.flatMap enC) y::bgS b l o) w':=by
 obtain⟨pl,cl,hvl,_,hsl⟩:=own_slg (e:=244) enC_len l o hk
 refine V.calls (bgS b l o) Tryz.func148 rfl Tryz.ntmps148 (Nat.le_of_ble_eq_true rfl) hs<|Sq<|Rg<|Lv Av<|Nl<|Ps<|Sq<|Sq<|Rg<|Lv Mv<|Lv EP<|Nl<|Ps<|Cf<|Sk<|Ps<|Sq<|Rg<|Lv Mv<|Lv Nz<|Lv (Fa 0 241)<|Lv (Ld (v:=ownV l.length o))<|LW.re 8 (.slice pl l.length cl) rfl hvl<|Le (CM [] fun w hw hs0=>cloneEn_c l pl cl hl w (hsl hw (by repeat(first|exact .nil|apply Pick.cons|exact .here|apply Ext.there)))) fun y hy=>Lv Av<|Nl<|Ps<|Rt<|Rt1 ?_
 intro w' hw;exact⟨y,hy,rfl,hw.pick (by repeat(first|exact .nil|apply Pick.cons|exact .here|apply Ext.there))⟩
theorem split_at {α:Type}{l:List α}{k:Nat}{x:α}(h:l[k]? =some x):l=l.take k++x::l.drop (k+1):=by
 have hlt:=(List.getElem?_eq_some_iff.1 h).1
 have h2:l.drop k=x::l.drop (k+1):=by
  rw[List.drop_eq_getElem_cons hlt]
  congr 1
  have:=List.getElem?_eq_getElem hlt
  rw[h] at this
  exact(Option.some.inj this).symm
 rw[← h2,List.take_append_drop]
theorem lk_one1 (l:List Lk):(l.flatMap lkC).all (·.oneCell')=true:=by
 induction l with
 |nil=>rfl
 |cons f r ih=>rw[List.flatMap_cons,List.all_append,ih];rfl
theorem delLk_c_dc {fa fx fc rest:List Value}{a c:Nat}(ha:fa.length=a*5)(hx:fx.length=5)(hc:fc.length=c*5):
 V.splice ((fa++(fx++(fc++rest))).take (a*5)++fc++(fa++(fx++(fc++rest))).drop (a*5+fc.length)) ((a+c)*5) [Value.string ⟨#[]⟩,.int .u64 0,.int .u64 0,.int .i64 0,.int .i64 0]=fa++(fc++([Value.string ⟨#[]⟩,.int .u64 0,.int .u64 0,.int .i64 0,.int .i64 0]++rest)):=by
 have h1:(fa++(fx++(fc++rest))).take (a*5)=fa:=by rw[← ha];simp
 have h2:(fa++(fx++(fc++rest))).drop (a*5+fc.length)=(fx++(fc++rest)).drop fc.length:=by
  rw[← ha,← List.drop_drop];simp
 have h3:(fx++(fc++rest)).drop fc.length=((fx++(fc++rest)).drop fc.length).take 5++rest:=by
  have h4:((fx++(fc++rest)).drop fc.length).drop 5=rest:=by
   rw[List.drop_drop]
   have:fc.length+5=(fx++fc).length:=by simp[hx];omega
   rw[this,← List.append_assoc];simp
  have h5:=(List.take_append_drop 5 ((fx++(fc++rest)).drop fc.length)).symm
  rw[h4] at h5
  exact h5
 rw[h1,h2,h3]
 have h6:=splice_mid0 [Value.string ⟨#[]⟩,.int .u64 0,.int .u64 0,.int .i64 0,.int .i64 0] (fa++fc) (((fx++(fc++rest)).drop fc.length).take 5) rest (by simp[hx];omega)
 have h7:(fa++fc).length=(a+c)*5:=by simp[ha,hc,Nat.add_mul]
 rw[h7] at h6
 simpa using h6
theorem delLk_c (g cap a c:Nat)(fa fx fc rest:List Value)(ha:fa.length=a*5)(hx:fx.length=5)(hc:fc.length=c*5)(h1:fc.all (·.oneCell')=true)(hcap:(a+1+c)*5+rest.length=cap*5)(hsz:a+1+c≤100000)(w:World)
 (hs:Sat [[(g,.cells (fa++(fx++(fc++rest))).toArray 94 (0,0))]] w):Calls Tryz.prog 462 [.slice (some ⟨g,0,none⟩) (a+1+c) cap,.int .i64 (a:Nat),.int .i64 ((a+1:Nat):Int)].toArray w fun e w'=>
  ∃_u:Unit,True∧e= .returned (.slice (some ⟨g,0,none⟩) (a+c) cap)∧Hp ⟨w,V.ids [[(g,.cells (fa++(fx++(fc++rest))).toArray 94 (0,0))]]⟩ [[(g,.cells (fa++(fc++([Value.string ⟨#[]⟩,.int .u64 0,.int .u64 0,.int .i64 0,.int .i64 0]++rest))).toArray 94 (0,0))]] w':=by
 have hle:a+1+c≤cap:=by omega
 refine V.calls [[(g,.cells (fa++(fx++(fc++rest))).toArray 94 (0,0))]] Tryz.func462 rfl Tryz.ntmps462 (Nat.le_of_ble_eq_true rfl) hs<|Sq<|Rg<|Lv Av<|Nl<|Ps<|Sq<|Rg<|Lv Mv<|Lv Mv<|Lv Mv<|Lv Mv<|Lv Ln<|Lv (Val.slice (a) (a+1) (a+1+c) rfl Tryz.underlying225 Tryz.sizeOf94 ⟨_,rfl⟩ ⟨_,rfl⟩ ⟨_,rfl⟩ (by intro h;first|rfl|cases h) (by omega) (by omega) (by omega))<|Nl<|Ps<|Sq<|Sq<|Rg<|Lv Mv<|Lv Mv<|Lv Cm<|Nl<|Ps ?_
 refine CW.cond rfl (fun h16=>?_) (fun h16=>?_)
 ·exact absurd (bT h16) (by omega)
 ·replace h16:=bF h16
  refine Sk<|Ps<|Sq<|Rg<|Lv Mv<|Lv Ln<|Lv Av<|Nl<|Ps<|Sq<|Dr ([])<|Rv 0 rfl Mv<|Rv 1 rfl Mv<|Rv 2 rfl (Val.slice (0) (a) (cap) rfl Tryz.underlying225 Tryz.sizeOf94 rfl ⟨_,rfl⟩ rfl (by intro h;first|rfl|cases h) (by omega) (by omega) (by omega))<|RW.re 22 (.slice (some ⟨g,0,none⟩) a cap) rfl (by simp)<|Rv 3 rfl Mv<|Rv 4 rfl Mv<|Rv 5 rfl (Val.slice (a+1) (a+1+c) (cap) rfl Tryz.underlying225 Tryz.sizeOf94 ⟨_,rfl⟩ rfl rfl (by intro h;first|rfl|cases h) (by omega) (by omega) (by omega))<|RW.re 25 (.slice (some ⟨g,if cap=a+1 then 0 else(a+1)*5,none⟩) c (cap-(a+1))) rfl (by congr 1<;>first|omega|simp)<|Re 6 rfl (Eff.appendIn (sz:=5) (bytes:=48) (z:= .agg #[.string ⟨#[]⟩,.int .u64 0,.int .u64 0,.int .i64 0,.int .i64 0]) (cur:=(fa++(fx++(fc++rest)))) (news:=fc) (r':=rest) (i:=a) (m:=c) rfl rfl Tryz.underlying225 (by kernel_rfl) (by repeat(first|exact .here|exact .inner .here|exact .inner (.inner .here)|apply Upd.there)) rfl hc (by by_cases hz:cap=a+1;(left;omega);right;rw[if_neg hz,show(a+1)*5=(fa++fx).length by simp[ha,hx];omega,← List.append_assoc];simp) h1 (by omega) (by simp[ha,hx,hc];omega)) fun _ _=>Rv 7 rfl Av<|Rd<|Ps<|Sq<|Rg<|Lv Mv<|Lv Mv<|Lv Ln<|Lv Mv<|Lv (Val.slice (a+c) (a+1+c) (cap) rfl Tryz.underlying225 Tryz.sizeOf94 ⟨_,rfl⟩ ⟨_,rfl⟩ rfl (by intro h;first|rfl|cases h) (by omega) (by omega) (by omega))<|LW.re 31 (.slice (some ⟨g,(a+c)*5,none⟩) (0+1) (cap-(a+c))) rfl (by rw[if_neg (by omega)];congr 1<;>first|omega|simp)<|LeN (Eff.clear (m:=0) (zl:=[Value.string ⟨#[]⟩,.int .u64 0,.int .u64 0,.int .i64 0,.int .i64 0]) (cells':=fa++(fc++([Value.string ⟨#[]⟩,.int .u64 0,.int .u64 0,.int .i64 0,.int .i64 0]++rest))) rfl Tryz.underlying225 (by exact Tryz.zeroValue94) rfl (by repeat(first|exact .here|exact .inner .here|exact .inner (.inner .here)|apply Upd.there)) (by rw[show V.repL [Value.string ⟨#[]⟩,.int .u64 0,.int .u64 0,.int .i64 0,.int .i64 0] (0+1)=[Value.string ⟨#[]⟩,.int .u64 0,.int .u64 0,.int .i64 0,.int .i64 0] by simp[V.repL]];exact delLk_c_dc ha hx hc) (by simp[V.repL,ha,hx,hc];omega) rfl) ?_
  intro _ _
  refine Nl<|Ps<|Sq<|Rg<|Lv Mv<|Lv Av<|Nl<|Ps<|Rt<|Rt1 ?_
  intro w' hw;exact⟨(),trivial,rfl,hw⟩
theorem odP {Lz:List LvO}{i:Nat}{lp:List Lk}{yp:V.OwnO}(h:Lz[i]? =some (lp,yp))(a:V.Seg):([a,odM Lz]:V.Sg).flatten.Perm ([a,ownG 94 (lp.flatMap lkC) yp,odM (Lz.eraseIdx i)]:V.Sg).flatten:=by
 have h8:=odM_at h
 simp only[List.flatten_cons,List.flatten_nil,List.append_nil]
 exact List.Perm.append_left _ h8
theorem odP2 {Lz:List LvO}{i:Nat}{p:LvO}{lp:List Lk}{yp:V.OwnO}(h:Lz[i]? =some p)(a c:V.Seg)(hc:c=ownG 94 (lp.flatMap lkC) yp):([a,c,odM (Lz.eraseIdx i)]:V.Sg).flatten.Perm ([a,odM (Lz.set i (lp,yp))]:V.Sg).flatten:=by
 have h8:=odM_set (q:=(lp,yp)) h
 subst hc
 simp only[List.flatten_cons,List.flatten_nil,List.append_nil]
 exact List.Perm.append_left _ h8.symm
theorem set_same {α:Type}{l:List α}{i:Nat}{x:α}(h:l[i]? =some x):l.set i x=l:=by
 obtain⟨h1,h2⟩:=List.getElem?_eq_some_iff.1 h
 rw[← h2,List.set_getElem_self]
def dropL (l:List Lk)(key:List UInt8):List Lk:=if hasF l key=true then l.eraseIdx (posF l key) else l
def dropTo (D:List (List Lk))(key:List UInt8)(k:Nat):List (List Lk):=D.mapIdx fun i l=>if i<k then dropL l key else l
theorem dropTo_0 (D:List (List Lk))(key:List UInt8):dropTo D key 0=D:=by
 apply List.ext_getElem?
 intro j
 unfold dropTo
 rw[List.getElem?_mapIdx]
 cases D[j]? <;>simp
theorem dropTo_succ {D:List (List Lk)}{key:List UInt8}{k:Nat}{l:List Lk}(h:D[k]? =some l):(dropTo D key k).set k (dropL l key)=dropTo D key (k+1):=by
 apply List.ext_getElem?
 intro j
 unfold dropTo
 rw[List.getElem?_set,List.getElem?_mapIdx,List.getElem?_mapIdx]
 have hk:=(List.getElem?_eq_some_iff.1 h).1
 by_cases e:k=j
 ·subst e
  rw[if_pos rfl,if_pos (by simpa using hk),h]
  simp
 ·rw[if_neg e]
  congr 1
  funext l
  by_cases h1:j<k
  ·rw[if_pos h1,if_pos (by omega)]
  ·rw[if_neg h1,if_neg (by omega)]
theorem dropTo_at {D:List (List Lk)}{key:List UInt8}{k:Nat}{l:List Lk}(h:D[k]? =some l):(dropTo D key k)[k]? =some l:=by
 unfold dropTo
 rw[List.getElem?_mapIdx,h]
 simp
def odrop (D:List (List Lk))(key:List UInt8):List (List Lk):=dropTo D key (levF key)
def odropB (D:List (List Lk))(key:List UInt8)(k:Nat):Bool:=(D.take k).any fun l=>hasF l key
theorem odropB_succ {D:List (List Lk)}{key:List UInt8}{k:Nat}{l:List Lk}(h:D[k]? =some l):odropB D key (k+1)=(odropB D key k||hasF l key):=by
 unfold odropB
 rw[List.take_add_one,h,Option.toList_some,List.any_append]
 simp
theorem odrop_g (ob:Nat)(Lz:List LvO)(key:List UInt8)(hO:odOk Lz)(hx:key.length≤100000)(w:World)(hs:Sat (odS ob Lz) w):Calls Tryz.prog 443 [.pointer (some ⟨ob,0,none⟩),str key].toArray w fun e w'=>∃Lv2:List LvO,((Lv2.map Prod.fst=odrop (Lz.map Prod.fst) key)∧Lv2.length=4∧∀p∈Lv2,lvOk p)∧e= .returned (.bool (odropB (Lz.map Prod.fst) key (levF key)))∧Hp ⟨w,V.ids ((odS ob Lz))⟩ (odS ob Lv2) w':=by
 have hlv:=levF_rng key
 have hO4:=hO.1
 refine V.calls (odS ob Lz) Tryz.func443 rfl Tryz.ntmps443 (Nat.le_of_ble_eq_true rfl) hs<|Sq<|Rg<|Lv Av<|Nl<|Ps<|Sq<|Sq<|Rg<|Lv Mv<|Lv EP<|Nl<|Ps<|Cf<|Sk<|Ps<|Sq<|Rg<|Lv Av<|Nl<|Ps<|Sq<|Sq<|Rg<|Lv Mv<|Le (CV fun w hw=>level_c key hx w) fun _ _=>Lv Mv<|Nl<|Ps<|Bk<|loopA (γ:=Nat×List LvO) (fun k=>[(0,.pointer (some ⟨ob,0,none⟩)),(1,str key),(5,.bool (odropB (Lz.map Prod.fst) key k.1)),(12,.int .i64 (levF key:Nat)),(13,.int .i64 (k.1:Nat))]) (fun k=>[[(ob,.cells (odC k.2).toArray 273 (0,0))],odM k.2]) (fun k=>k.1≤levF key∧k.2.map Prod.fst=dropTo (Lz.map Prod.fst) key k.1∧k.2.length=4∧(∀p∈k.2,lvOk p)) (fun k=>levF key-k.1) ((0,Lz)) ⟨Nat.zero_le _,by rw[dropTo_0],hO.1,fun p hp=>(hO.2 p hp).1⟩ fun k=>?_
 rintro⟨hk1,hk2,hk3,hk4⟩
 refine Sq<|Rg<|Lv Cm<|Nl<|Ps<|Sq ?_
 refine CW.cond rfl (fun h14=>?_) (fun h14=>?_)
 ·replace h14:=bT h14
  refine Sk<|Ps<|Sq<|Bk<|Sq<|Rg<|Lv Mv<|Lv Av<|Nl<|Ps<|Sq ?_
  obtain⟨p,hp⟩:∃p,k.2[k.1]? =some p:=⟨k.2[k.1]'(by omega),by simp⟩
  obtain⟨lp,yp⟩:=p
  have hpk:ownOk 5 lp.length (lp.flatMap lkC) yp:=hk4 _ (List.mem_of_getElem? hp)
  have hD:(Lz.map Prod.fst)[k.1]? =some lp:=by
   obtain⟨l,hl⟩:∃l,(Lz.map Prod.fst)[k.1]? =some l:=⟨(Lz.map Prod.fst)[k.1]'(by rw[List.length_map,hO.1];omega),List.getElem?_eq_getElem _⟩
   have h8:=dropTo_at (key:=key) hl
   rw[← hk2,List.getElem?_map,hp] at h8
   rw[hl,← h8];rfl
  have hlp:lp.length≤900:=by
   have h9:=hD
   rw[List.getElem?_map,Option.map_eq_some_iff] at h9
   obtain⟨q,hq,rfl⟩:=h9
   exact(hO.2 q (List.mem_of_getElem? hq)).2
  have hst:=dropTo_succ (key:=key) hD
  have hob:=odropB_succ (key:=key) hD
  obtain⟨ps,cs,hvs,_,hss⟩:=own_slg (e:=94) lkC_len lp yp hpk
  refine V.CW.perm (sg':=[[(ob,.cells (odC k.2).toArray 273 (0,0))],ownG 94 (lp.flatMap lkC) yp,odM (k.2.eraseIdx k.1)]) ?_ (odP hp _)
  refine Rg<|Lv Mv<|Lv Mv<|Lv Nz<|Lv (Fa 0 271)<|Lv (Val.indexAddrA (i:=k.1) rfl rfl Tryz.underlying271 Tryz.sizeOf225 (by omega))<|Lv (Ld (v:=ownV lp.length yp) (hl:=odC_at hp))<|LW.re 22 (.slice ps lp.length cs) rfl hvs<|Lv Mv<|Le (CV fun w hw=>find_o lp ps cs key (by omega) w (hss hw (by repeat(first|exact .nil|apply Pick.cons|exact .here|apply Ext.there)))) fun _ _=>Lv Mv<|Lv Ex<|Lv Ex<|Lv Av<|Lv Av<|Nl<|Ps<|Sq<|Rg<|Lv Mv<|Nl<|Ps ?_
  refine CW.cond rfl (fun h27=>?_) (fun h27=>?_)
  ·replace h27:=bT h27
   have hpl:posF lp key<lp.length:=by unfold hasF at h27;rw[Bool.and_eq_true,decide_eq_true_eq] at h27;exact h27.1
   obtain⟨g,rest,cap,rfl⟩:∃g r c,yp=some (g,r,c):=by
    rcases yp with _|⟨g,r,c⟩
    ·exact absurd hpk.2 (by omega)
    ·exact⟨g,r,c,rfl⟩
   obtain⟨x,hx9⟩:∃x,lp[posF lp key]? =some x:=⟨lp[posF lp key]'hpl,by simp⟩
   have hsp:=split_at hx9
   obtain⟨a,ha⟩:∃a,a=posF lp key:=⟨_,rfl⟩
   have hdl:dropL lp key=lp.take a++lp.drop (a+1):=by unfold dropL;rw[if_pos h27,← ha];exact List.eraseIdx_eq_take_drop_succ ..
   rw[← ha] at hpl hsp
   obtain⟨A,hA⟩:∃A,A=lp.take a:=⟨_,rfl⟩
   obtain⟨Cc,hC⟩:∃C,C=lp.drop (a+1):=⟨_,rfl⟩
   rw[← hA,← hC] at hsp hdl
   have hAl:A.length=a:=by rw[hA,List.length_take];omega
   have hll:lp.length=a+1+Cc.length:=by rw[hsp];simp[hAl];omega
   have hcap:lp.length*5+rest.length=cap*5:=by have h8:=hpk.2;simp only[V.flatMap_len lkC_len] at h8;exact h8
   have hcells:lp.flatMap lkC++rest=A.flatMap lkC++(lkC x++(Cc.flatMap lkC++rest)):=by rw[hsp];simp
   have hok2:lvOk (dropL lp key,some (g,[Value.string ⟨#[]⟩,.int .u64 0,.int .u64 0,.int .i64 0,.int .i64 0]++rest,cap)):=by
    rw[hdl]
    refine⟨V.flatMap_len lkC_len _,?_⟩
    show((A++Cc).flatMap lkC).length+([Value.string ⟨#[]⟩,.int .u64 0,.int .u64 0,.int .i64 0,.int .i64 0]++rest).length=cap*5
    rw[V.flatMap_len lkC_len]
    simp only[List.length_append,List.length_cons,List.length_nil,hAl]
    omega
   have hlen2:(dropL lp key).length=a+Cc.length:=by rw[hdl];simp[hAl]
   have hseg:([(g,.cells (A.flatMap lkC++(Cc.flatMap lkC++([Value.string ⟨#[]⟩,.int .u64 0,.int .u64 0,.int .i64 0,.int .i64 0]++rest))).toArray 94 (0,0))]:V.Seg)=ownG 94 ((dropL lp key).flatMap lkC) (some (g,[Value.string ⟨#[]⟩,.int .u64 0,.int .u64 0,.int .i64 0,.int .i64 0]++rest,cap)):=by rw[hdl,V.ownG_some,List.flatMap_append,List.append_assoc]
   refine Sq<|Dr ([])<|Rv 0 rfl Mv<|Rv 1 rfl Mv<|Rv 2 rfl Mv<|Rv 3 rfl Mv<|Rv 4 rfl Nz<|Rv 5 rfl (Fa 0 271)<|Rv 6 rfl (Val.indexAddrA (i:=k.1) rfl rfl Tryz.underlying271 Tryz.sizeOf225 (by omega))<|Rv 8 rfl Mv<|RW.re 36 (.int .i64 (a:Nat)) rfl (by rw[ha])<|Rv 9 rfl Mv<|RW.re 37 (.int .i64 (a:Nat)) rfl (by rw[ha])<|Rv 10 rfl Ar<|RW.re 38 (.int .i64 ((a+1:Nat):Int)) rfl (by simp)<|Rv 12 rfl Nz<|Rv 13 rfl (Fa 0 271)<|Re 7 rfl (Eff.ofVal (Ld (v:=ownV lp.length (some (g,rest,cap))) (hl:=odC_at hp))) fun _ _=>RW.re 35 (.slice (some ⟨g,0,none⟩) (a+1+Cc.length) cap) rfl (by rw[← hll];rfl)<|Re 11 rfl (Eff.callM ([[(g,.cells (A.flatMap lkC++(lkC x++(Cc.flatMap lkC++rest))).toArray 94 (0,0))]]) (by rw[← hcells];repeat(first|exact .nil|apply Pick.cons|exact .here|apply Ext.there)) rfl Tryz.call462 (fun w hw hs0=>delLk_c g cap a Cc.length (A.flatMap lkC) (lkC x) (Cc.flatMap lkC) rest (by rw[V.flatMap_len lkC_len,hAl]) rfl (V.flatMap_len lkC_len Cc) (lk_one1 Cc) (by omega) (by omega) w hs0)) fun _ _=>Rv 14 rfl (Val.indexAddrA (i:=k.1) rfl rfl Tryz.underlying271 Tryz.sizeOf225 (by omega))<|ReN 15 rfl (Eff.storeX (v:= .slice (some ⟨g,0,none⟩) (a+Cc.length) cap) (l:=odC k.2) (l':=odC (k.2.set k.1 (dropL lp key,some (g,[Value.string ⟨#[]⟩,.int .u64 0,.int .u64 0,.int .i64 0,.int .i64 0]++rest,cap)))) rfl rfl rfl (by repeat(first|exact .here|exact .inner .here|exact .inner (.inner .here)|apply Upd.there)) (by have h8:=odC_set (Lz:=k.2) (i:=k.1) (dropL lp key,some (g,[Value.string ⟨#[]⟩,.int .u64 0,.int .u64 0,.int .i64 0,.int .i64 0]++rest,cap));simp only[hlen2] at h8;exact h8) (by unfold odC;rw[List.length_map];omega) Tryz.sizeOf225) fun _ _=>Rd<|Ps<|Rg<|Lv Av<|Nl<|Bn<|Ps<|Rg<|Lv Ar<|Lv Mv<|Nl ?_
   refine V.PQ.segs (ss:=[[(ob,.cells (odC (k.2.set k.1 (dropL lp key,some (g,[Value.string ⟨#[]⟩,.int .u64 0,.int .u64 0,.int .i64 0,.int .i64 0]++rest,cap)))).toArray 273 (0,0))],[(g,.cells (A.flatMap lkC++(Cc.flatMap lkC++([Value.string ⟨#[]⟩,.int .u64 0,.int .u64 0,.int .i64 0,.int .i64 0]++rest))).toArray 94 (0,0))],odM (k.2.eraseIdx k.1)]) ?_ (by repeat(first|exact .nil|apply Pick.cons|exact .here|apply Ext.there))
   refine V.PQ.perm (sg':=[[(ob,.cells (odC (k.2.set k.1 (dropL lp key,some (g,[Value.string ⟨#[]⟩,.int .u64 0,.int .u64 0,.int .i64 0,.int .i64 0]++rest,cap)))).toArray 273 (0,0))],odM (k.2.set k.1 (dropL lp key,some (g,[Value.string ⟨#[]⟩,.int .u64 0,.int .u64 0,.int .i64 0,.int .i64 0]++rest,cap)))]) ?_ (odP2 hp _ _ hseg)
   refine PQ.round ((k.1+1,k.2.set k.1 (dropL lp key,some (g,[Value.string ⟨#[]⟩,.int .u64 0,.int .u64 0,.int .i64 0,.int .i64 0]++rest,cap)))) ⟨by simp only;omega,by simp only;rw[List.map_set,hk2];exact hst,by simp only[List.length_set];exact hk3,fun q hq=>by
    rcases List.mem_or_eq_of_mem_set hq with hq|rfl
    ·exact hk4 q hq
    ·exact hok2⟩ (by simp only;omega) (by exact⟨rfl,rfl,congrArg (fun z=>some (Value.bool z)) (by simp only;rw[hob,h27,Bool.or_true]),rfl,rfl,trivial⟩) (by repeat(first|exact .nil|apply Pick.cons|exact .here|apply Ext.there))
  ·replace h27:=bF h27
   have hdl:dropL lp key=lp:=by unfold dropL;rw[if_neg (by simp[h27])]
   refine Sk<|Bn<|Ps<|Rg<|Lv Ar<|Lv Mv<|Nl ?_
   refine V.PQ.perm (sg':=[[(ob,.cells (odC k.2).toArray 273 (0,0))],odM k.2]) ?_ (odP hp _).symm
   refine PQ.round ((k.1+1,k.2)) ⟨by simp only;omega,by simp only;rw[hk2,← hst,hdl];exact(set_same (dropTo_at (key:=key) hD)).symm,hk3,hk4⟩ (by simp only;omega) (by exact⟨rfl,rfl,congrArg (fun z=>some (Value.bool z)) (by simp only;rw[hob,h27,Bool.or_false]),rfl,rfl,trivial⟩) (by repeat(first|exact .nil|apply Pick.cons|exact .here|apply Ext.there))
 ·replace h14:=bF h14
  refine Xt<|Te<|Te<|Bh<|Ps<|Sq<|Rg<|Lv Mv<|Lv Av<|Nl<|Ps<|Rt<|Rt1 ?_
  have hk9:k.1=levF key:=by omega
  have hfin:k.2.map Prod.fst=odrop (Lz.map Prod.fst) key:=by unfold odrop;rw[hk2,hk9]
  rw[← hk9]
  intro w' hw;exact⟨k.2,⟨hfin,hk3,hk4⟩,rfl,hw.pick (by repeat(first|exact .nil|apply Pick.cons|exact .here|apply Ext.there))⟩
theorem tget_g (tb:Nat)(ms:List Nat)(Tz:Tbl)(hT:tbOk ms Tz)(key:List UInt8)(hl:key.length≤100000)(w:World)(hs:Sat (tbS tb ms Tz) w):Calls Tryz.prog 437 [.pointer (some ⟨tb,0,none⟩),str key].toArray w fun e w'=>e= .returned (.tuple #[.agg (lkC ((tGet Tz key).getD lk0)).toArray,.bool (tGet Tz key).isSome])∧Below w.heap.size w w':=by
 have hbk:=bkF_lt key
 obtain⟨m,hm⟩:∃m,ms[bkF key]? =some m:=⟨ms[bkF key]'(by rw[hT.1];omega),by simp⟩
 obtain⟨p,hp⟩:∃p,Tz[bkF key]? =some p:=⟨Tz[bkF key]'(by rw[hT.2];omega),by simp⟩
 have hg:tGet Tz key=lget p.1 key:=by unfold tGet;rw[hp];rfl
 refine V.calls (tbS tb ms Tz) Tryz.func437 rfl Tryz.ntmps437 (Nat.le_of_ble_eq_true rfl) hs<|Sq<|Rg<|Le AA fun b4 _=>Lv Av<|Nl<|Ps<|Sq<|Rg<|Lv Mv<|Lv Mv<|Le (CV fun w hw=>of_c3 tb ms Tz hT key hl m hm w (hw.sat.pick (ss:=tbS tb ms Tz) (by repeat(first|exact .nil|apply Pick.cons|exact .here|apply Ext.there)))) fun _ _=>Lv Mv<|Lv (Val.lookup rfl rfl Tryz.underlying267 Tryz.underlying9 Tryz.zeroValue94 (by repeat(first|exact InS.nth (tbM_at hm hp)|refine .there ?_)))<|LW.re 13 (.tuple [lkW ((tGet Tz key).getD lk0),.bool (tGet Tz key).isSome].toArray) rfl (by rw[hg];show Value.tuple [(mget (me p.1) (byK key)).getD _,.bool (mget (me p.1) (byK key)).isSome].toArray=_;rw[mget_me];cases lget p.1 key<;>rfl)<|Lv Mv<|Lv Ex<|Lv Ex<|Le AA fun b6 _=>LeN (StW (cs:=lkC ((tGet Tz key).getD lk0))) fun _ _=>Lv Av<|Nl<|Ps<|Sq<|Rg<|Lv (Lw (l:=lkC ((tGet Tz key).getD lk0)))<|Lv Mv<|LeN (StW (cs:=lkC ((tGet Tz key).getD lk0))) fun _ _=>Lv Av<|Nl<|Ps<|Rt<|PQ.retCT rfl rfl rfl (by repeat(first|exact .here|exact .inner .here|exact .inner (.inner .here)|refine .there ?_)) Tryz.isAgg94 (by exact Tryz.sizeOf94) ?_
 intro w' hw;exact⟨rfl,hw.ro (by repeat(first|exact .nil|apply Pick.cons|exact .here|apply Ext.there)) hs⟩
def ldrop:LE→List UInt8→LE
 |[],_=>[]
 |e::r,k=>if e.2.key=k then r else e::ldrop r k
def tDrop (Tz:Tbl)(k:List UInt8):Tbl:=match Tz[bkF k]? with
 |none=>Tz
 |some p=>Tz.set (bkF k) (ldrop p.1 k,p.2)
theorem mdel_me (k:List UInt8):∀E:LE,mdel (me E) (byK k)=me (ldrop E k)
 |[]=>rfl
 |e::r=>by
  have h8:=mdel_me k r
  show(if byK e.2.key=byK k then me r else(e.1,byK e.2.key,lkW e.2)::mdel (me r) (byK k))=me (if e.2.key=k then r else e::ldrop r k)
  by_cases h:e.2.key=k
  ·rw[if_pos (by rw[h]),if_pos h]
  ·rw[if_neg (fun h9=>h (byK_inj.1 h9)),if_neg h,h8];rfl
theorem tDrop_len (Tz:Tbl)(k:List UInt8):(tDrop Tz k).length=Tz.length:=by
 unfold tDrop
 split
 ·rfl
 ·rw[List.length_set]
theorem tdrop_g (tb:Nat)(ms:List Nat)(Tz:Tbl)(hT:tbOk ms Tz)(key:List UInt8)(hl:key.length≤100000)(w:World)(hs:Sat (tbS tb ms Tz) w):Calls Tryz.prog 442 [.pointer (some ⟨tb,0,none⟩),str key].toArray w fun e w'=>∃_u:Unit,True∧e= .returned (.tuple #[.agg (lkC ((tGet Tz key).getD lk0)).toArray,.bool (tGet Tz key).isSome])∧Hp ⟨w,V.ids ((tbS tb ms Tz))⟩ (tbS tb ms (tDrop Tz key)) w':=by
 have hbk:=bkF_lt key
 obtain⟨m,hm⟩:∃m,ms[bkF key]? =some m:=⟨ms[bkF key]'(by rw[hT.1];omega),by simp⟩
 obtain⟨p,hp⟩:∃p,Tz[bkF key]? =some p:=⟨Tz[bkF key]'(by rw[hT.2];omega),by simp⟩
 have hg:tGet Tz key=lget p.1 key:=by unfold tGet;rw[hp];rfl
 refine V.calls (tbS tb ms Tz) Tryz.func442 rfl Tryz.ntmps442 (Nat.le_of_ble_eq_true rfl) hs<|Sq<|Rg<|Le AA fun b4 _=>Lv Av<|Nl<|Ps<|Sq<|Rg<|Lv Mv<|Lv Mv<|Le (CV fun w hw=>of_c3 tb ms Tz hT key hl m hm w (hw.sat.pick (ss:=tbS tb ms Tz) (by repeat(first|exact .nil|apply Pick.cons|exact .here|apply Ext.there)))) fun _ _=>Lv Av<|Nl<|Ps<|Sq<|Rg<|Lv Mv<|Lv Mv<|Lv (Val.lookup rfl rfl Tryz.underlying267 Tryz.underlying9 Tryz.zeroValue94 (by repeat(first|exact InS.nth (tbM_at hm hp)|refine .there ?_)))<|LW.re 15 (.tuple [lkW ((tGet Tz key).getD lk0),.bool (tGet Tz key).isSome].toArray) rfl (by rw[hg];show Value.tuple [(mget (me p.1) (byK key)).getD _,.bool (mget (me p.1) (byK key)).isSome].toArray=_;rw[mget_me];cases lget p.1 key<;>rfl)<|Lv Mv<|Lv Ex<|Lv Ex<|Le AA fun b7 _=>LeN (StW (cs:=lkC ((tGet Tz key).getD lk0))) fun _ _=>Lv Av<|Nl<|Ps<|Sq<|Rg<|Lv Mv<|Lv Mv<|LeN (Eff.delete rfl rfl Tryz.underlying267 Tryz.underlying9 (by repeat(first|exact Upd.nth (tbM_at hm hp)|apply Upd.there))) fun _ _=>Nl<|Ps<|Sq<|Rg<|Lv (Lw (l:=lkC ((tGet Tz key).getD lk0)))<|Lv Mv<|LeN (StW (cs:=lkC ((tGet Tz key).getD lk0))) fun _ _=>Lv Av<|Nl<|Ps<|Rt<|PQ.retCT rfl rfl rfl (by repeat(first|exact .here|exact .inner .here|exact .inner (.inner .here)|refine .there ?_)) Tryz.isAgg94 (by exact Tryz.sizeOf94) ?_
 have e8:(tbM ms Tz).set (bkF key) (m,mpO (mdel (me p.1) (byK key)) p.2)=tbM ms (tDrop Tz key):=by
  rw[mdel_me]
  unfold tDrop
  rw[hp]
  exact tbM_set (ldrop p.1 key,p.2) hm
 intro w' hw
 refine⟨(),trivial,rfl,?_⟩
 have h9:=hw.pick (ss:=[[(tb,.cells (tbC ms).toArray 270 (0,0))],(tbM ms Tz).set (bkF key) (m,mpO (mdel (me p.1) (byK key)) p.2)]) (by repeat(first|exact .nil|apply Pick.cons|exact .here|apply Ext.there))
 rw[e8] at h9
 exact h9
theorem tSet_ok {ms:List Nat}{Tz:Tbl}(h:tbOk ms Tz)(x:Lk):tbOk ms (tSet Tz x):=⟨h.1,by rw[tSet_len];exact h.2⟩
theorem tDrop_ok {ms:List Nat}{Tz:Tbl}(h:tbOk ms Tz)(k:List UInt8):tbOk ms (tDrop Tz k):=⟨h.1,by rw[tDrop_len];exact h.2⟩
end G
end Go.Proofs.YtpjmdbifacijoaaGreatDoor
