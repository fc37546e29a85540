import Derived.Test.YtjidffamcdcecaaGreatQa5
/- What the law leans on, part 6. -/
namespace Go.Proofs.YtjidffamcdcecaaGreat
open Go Go.RowKit V
set_option linter.unusedVariables false
set_option maxRecDepth 100000
set_option maxHeartbeats 1000000
namespace G
section
attribute [local irreducible] V.CW V.LW V.QW V.RW V.PQ V.Val V.Eff V.Qcall
open V (str byC ownV ownG ownS ownOk)
instance:Cal Tryz.prog 214:=⟨Tryz.call214⟩
def readL (f:Frm)(v:Dev):List UInt8:=nowL v.D (f.old.line+f.pc)
def readF (f:Frm)(v:Dev):Frm:={f with bs:=f.bs++readL f v,pc:=f.pc+1}
def readB (f:Frm):Bool:=decide (f.pc+1=(spanF f.old.cls:Nat))
def fvB (bs:List UInt8):Blk:=(decF bs).getD blk0
def fvK (bs:List UInt8)(l:Lk)(kind:Int):Bool:=(decF bs).isSome&&decide ((fvB bs).kind=kind)&&decide ((fvB bs).id=l.id)&&decide ((fvB bs).ver=l.ver)&&decide ((fvB bs).key=l.key)
def wrN (c:Kal)(i:Int):Nat:=min (28+(i-1).toNat*63) (bytesK c).length
def wrD (c:Kal)(i:Int):List UInt8:=((bytesK c).drop (wrN c i)).take 63
def wrL (c:Kal)(i:Int):List UInt8:=2::(wrD c i++List.replicate (63-(wrD c i).length) 0)
theorem wrD_le (c:Kal)(i:Int):(wrD c i).length≤63:=by unfold wrD;rw[List.length_take];omega
theorem wrL_len (c:Kal)(i:Int):(wrL c i).length=64:=by
 have:=wrD_le c i
 unfold wrL
 rw[List.length_cons,List.length_append,List.length_replicate];omega
def writeD (v:Dev)(c:Kal)(line k i:Int):Dev:=if i=0 then v.store line 0 (draftL k) else v.store (line+i) 0 (wrL c i)
theorem bytesK_le {c:Kal}(hl:c.key.length≤100000∧c.val.length≤100000):(bytesK c).length≤200000:=by
 unfold bytesK
 split
 ·rw[List.length_append];omega
 ·split
  ·omega
  ·simp
theorem wr_copy {d:List UInt8}(h:d.length≤63):(byC ((List.replicate 64 0).set 0 2)).take 1++byC d++(byC ((List.replicate 64 0).set 0 2)).drop (1+d.length)=byC (2::(d++List.replicate (63-d.length) 0)):=by
 have e:(List.replicate 64 (0:UInt8)).set 0 2=2::List.replicate 63 0:=rfl
 rw[e,byC_take,← V.byC_append,byC_drop,← V.byC_append]
 congr 1
 rw[show(2::List.replicate 63 (0:UInt8)).drop (1+d.length)=List.replicate (63-d.length) 0 by rw[Nat.add_comm,List.drop_succ_cons,List.drop_replicate]]
 simp
theorem fread_g (wb:Nat)(T:TypeId)(x:ArR)(t:Int)(f:Frm)(o:FrO)(s:ArS)(xd:DvR)(v:Dev)(hF:FrOk f o)(hb:f.bs.length≤10000)(hp:0≤f.pc∧f.pc≤1000)(hl: -1000000≤f.old.line∧f.old.line≤1000000):Mo Tryz.prog 168 [.pointer (some ⟨x.a,0,none⟩),.pointer (some ⟨wb,2,none⟩)] (wsS wb T x t f o s xd v) (fun o':V.OwnO=>ownOk 1 (f.bs++readL f v).length (byC (f.bs++readL f v)) o') (fun _=> .bool (readB f)) (fun o'=>wsS wb T x t (readF f v) {o with bo:=o'} s xd v):=by
 intro w hs
 have hn64:(readL f v).length≤64:=nowL_le _ _
 have hsp8:=span_le f.old.cls
 refine Ca_ Tryz.func168 rfl Tryz.ntmps168 hs<|pA_ 6 ?_
 refine Dr ([[(wb,.cells (wkC x t (f) (o)).toArray T (0,0))],[(x.a,.cells (arC x s).toArray 77 (0,0))],[(x.dv,.cells (avC xd.db s).toArray 103 (0,0))]])<|pR_ [0,2,3,4,5] ?_
 refine Rv 6 rfl (Ld (v:= .int .i64 f.old.line))<|pR_ [7,8,9] ?_
 refine Rv 10 rfl (Ld (v:= .int .i64 f.pc))<|Rv 11 rfl Ar<|Re 1 rfl (CV fun w hw=>adev_g x s xd.db w hw.at hw.at) fun _ _=>Re 12 rfl (CM [] fun w hw hs0=>load_g xd v.D v.k (f.old.line+f.pc) w (hw.sat.pick (ss:=vS xd v) pk_)) fun o2 ho2=>?_
 rw[show nowL v.D (f.old.line+f.pc)=readL f v from rfl] at ho2⊢
 refine pR_ [13,14,15,16,17] ?_
 refine pA_ 8 ?_
 refine Lv (Ld (v:=ownV f.bs.length o.bo))<|Lv Mv<|Le (Eff.appendOwn (sz:=1) (bytes:=1) (z:= .int .u8 0) (xs:=byC f.bs) (ys:=byC (readL f v)) (m0:=f.bs.length) (m:=(readL f v).length) (o:=o.bo) (oy:=o2) (pk:=[ownG 5 (byC f.bs) o.bo]) (pk2:=[ownG 5 (byC (readL f v)) o2]) rfl rfl Tryz.underlying133 kr_ rfl om_ pk_ (by first|rfl|simp) hF.bo pk_ (by simp) ho2 (V.byC_one _) om_ om_) fun o3 ho3=>?_
 rw[← V.byC_append,show f.bs.length+(readL f v).length=(f.bs++readL f v).length by rw[List.length_append]] at*
 refine Lv Nz<|Lv (Fa 19 133)<|LeN (Eff.storeX (v:=ownV (f.bs++readL f v).length o3) (l:=wkC x t (f) o) (l':=wkC x t ({f with bs:=f.bs++readL f v}) {o with bo:=o3}) rfl rfl (V.ownV_one _ _) up_ (by rfl) (by show 21<30;omega) Tryz.sizeOf133) fun _ _=>pA_ 7 ?_
 refine Lv (Ld (v:= .int .i64 f.pc))<|pA_ 3 ?_
 refine LeN (sx_ (wkC x t (readF f v) {o with bo:=o3})) fun _ _=>pA_ 3 ?_
 refine Qt<|pA_ 3 ?_
 refine Qv (Ld (v:= .int .i64 (f.pc+1)))<|pA_ 4 ?_
 refine Qv (Ld (v:= .int .i64 f.old.cls))<|Qc (Qz_ (span_c f.old.cls))<|pA_ 6 ?_
 exact fi_ o3 ho3
theorem fvalue_g (wb:Nat)(T:TypeId)(x:ArR)(t:Int)(f:Frm)(o:FrO)(hF:FrOk f o)(hb:f.bs.length≤1000)(kind:Int):Mo Tryz.prog 169 [.pointer (some ⟨wb,2,none⟩),.int .i64 kind] ([(wb,.cells (wkC x t (f) (o)).toArray T (0,0))]::frS (f) (o)) (fun _u:Unit=>True) (fun _=> .tuple #[str (fvB f.bs).val,.bool (fvK f.bs f.old kind)]) (fun _=>[(wb,.cells (wkC x t ({f with bs:=[]}) ({o with bo:=none})).toArray T (0,0))]::frS ({f with bs:=[]}) ({o with bo:=none})):=by
 intro w hs
 obtain⟨pd,cd,hvd,hcd,_,hsd⟩:=own_src hF.bo
 refine Ca_ Tryz.func169 rfl Tryz.ntmps169 hs<|pA_ 11 ?_
 refine Lv (Ld (v:=ownV f.bs.length o.bo))<|LW.re 12 (.slice pd f.bs.length cd) rfl hvd<|Le (CV fun w hw=>decode_c f.bs pd cd hb hcd w (hsd hw pk_)) fun _ _=>Lv Mv<|Lv Ex<|LW.re 14 (.agg (blC (fvB f.bs)).toArray) rfl (by rfl)<|Lv Ex<|Le AA fun b6 _=>LeN StW fun _ _=>pA_ 8 ?_
 refine LeN (sx_ (wkC x t ({f with bs:=[]}) {o with bo:=none})) fun _ _=>pA_ 3 ?_
 refine Qt<|Qv (Fa 6 9)<|Qv (Ld (v:=str (fvB f.bs).val))<|Qv Mv<|Qv Mv ?_
 refine QW.split (d:=22) rfl (fun h22=>?_) (fun h22=>?_)
 ·replace h22:=bT h22
  refine Qv (Fa 1 3)<|Qv (Ld (v:= .int .i64 (fvB f.bs).kind))<|pA_ 4 ?_
  refine QW.split (d:=28) rfl (fun h28=>?_) (fun h28=>?_)
  ·replace h28:=bT h28
   refine Qv (Fa 2 48)<|Qv (Ld (v:= .int .u64 (fvB f.bs).id))<|pA_ 4 ?_
   refine Qv (Ld (v:= .int .u64 f.old.id))<|pA_ 3 ?_
   refine QW.split (d:=38) rfl (fun h38=>?_) (fun h38=>?_)
   ·replace h38:=bT h38
    refine Qv (Fa 3 48)<|Qv (Ld (v:= .int .u64 (fvB f.bs).ver))<|pA_ 4 ?_
    refine Qv (Ld (v:= .int .u64 f.old.ver))<|pA_ 3 ?_
    refine QW.split (d:=48) rfl (fun h48=>?_) (fun h48=>?_)
    ·replace h48:=bT h48
     refine Qv (Fa 5 9)<|Qv (Ld (v:=str (fvB f.bs).key))<|pA_ 4 ?_
     refine Qv (Ld (v:=str f.old.key))<|Qv ES<|pA_ 7 ?_
     intro w' hw;exact⟨(),trivial,by unfold fvK;simp_all,(hw.pick (ss:=[(wb,.cells (wkC x t ({f with bs:=[]}) ({o with bo:=none})).toArray T (0,0))]::ownG 79 (o.gz.flatMap kzC) o.go::ownG 237 (f.pa.flatMap ptC) o.po::anS f.an o.so o.ho) pk_).perm (.refl _)⟩
    ·replace h48:=bF h48
     refine pA_ 15 ?_
     intro w' hw;exact⟨(),trivial,by unfold fvK;simp_all,(hw.pick (ss:=[(wb,.cells (wkC x t ({f with bs:=[]}) ({o with bo:=none})).toArray T (0,0))]::ownG 79 (o.gz.flatMap kzC) o.go::ownG 237 (f.pa.flatMap ptC) o.po::anS f.an o.so o.ho) pk_).perm (.refl _)⟩
   ·replace h38:=bF h38
    refine pA_ 25 ?_
    intro w' hw;exact⟨(),trivial,by unfold fvK;simp_all,(hw.pick (ss:=[(wb,.cells (wkC x t ({f with bs:=[]}) ({o with bo:=none})).toArray T (0,0))]::ownG 79 (o.gz.flatMap kzC) o.go::ownG 237 (f.pa.flatMap ptC) o.po::anS f.an o.so o.ho) pk_).perm (.refl _)⟩
  ·replace h28:=bF h28
   refine pA_ 35 ?_
   intro w' hw;exact⟨(),trivial,by unfold fvK;simp_all,(hw.pick (ss:=[(wb,.cells (wkC x t ({f with bs:=[]}) ({o with bo:=none})).toArray T (0,0))]::ownG 79 (o.gz.flatMap kzC) o.go::ownG 237 (f.pa.flatMap ptC) o.po::anS f.an o.so o.ho) pk_).perm (.refl _)⟩
 ·replace h22:=bF h22
  refine pA_ 41 ?_
  intro w' hw;exact⟨(),trivial,by unfold fvK;simp_all,(hw.pick (ss:=[(wb,.cells (wkC x t ({f with bs:=[]}) ({o with bo:=none})).toArray T (0,0))]::ownG 79 (o.gz.flatMap kzC) o.go::ownG 237 (f.pa.flatMap ptC) o.po::anS f.an o.so o.ho) pk_).perm (.refl _)⟩
theorem fwrite_g (x:ArR)(s:ArS)(xd:DvR)(v:Dev)(c:Kal)(g:Value)(hg:g.oneCell'=true)(hl:c.key.length≤100000∧c.val.length≤100000)(line k i:Int)(hi:0≤i∧i≤1000)(hln: -1000000≤line∧line≤1000000):Mo Tryz.prog 173 [.pointer (some ⟨x.a,0,none⟩),.agg (klC c g).toArray,.int .i64 line,.int .i64 k,.int .i64 i] (arS x s xd.db++vS xd v) (fun _u:Unit=>True) (fun _=> .bool (decide (i+1=(spanF k:Nat)))) (fun _=>arS x s xd.db++vS xd (writeD v c line k i)):=by
 intro w hs
 have hsp8:=span_le k
 have hbl:(bytesK c).length≤200000:=bytesK_le hl
 refine Ca_ Tryz.func173 rfl Tryz.ntmps173 hs<|Sq<|Rg<|Le XA fun b6 _=>pA_ 10 ?_
 refine Cd_ rfl (fun h15=>?_) fun h15=>?_
 ·have h15:i=0:=h15
  refine Rg<|Lv Mv<|Le (CV fun w hw=>adev_g x s xd.db w hw.at hw.at) fun _ _=>Lv Mv<|Lv Mv<|Le (CM [] fun w hw hs0=>draft_c k w) fun o1 ho1=>?_
  obtain⟨p1,c1,hv1,hc1,_,hs1⟩:=own_src ho1
  have hn64:=draft_le k
  refine LW.re 20 (.slice p1 (draftL k).length c1) rfl hv1<|Le (CM (vS xd v) fun w hw hs0=>store_v xd v line 0 (draftL k) p1 c1 om_ w hs0 (hs1 hw (show Pick [ownG 5 (byC (draftL k)) o1] _ _ from pk_)) (fun _ b q hb=>own_not hw hv1 (show Pick (ownG 5 (byC (draftL k)) o1::vS xd v) _ _ from pk_) b q hb)) fun _ _=>pA_ 7 ?_
  refine Le (Cz_ (span_c k)) fun _ _=>pA_ 6 ?_
  have e1:writeD v c line k i=v.store line 0 (draftL k):=if_pos h15
  rw[e1]
  exact fi_ () trivial
 ·have h15:¬i=0:=h15
  refine Sq<|Rg<|Le (Eff.makeSlice (m:=64) (by_:=1) (zl:=[.int .u8 0]) rfl rfl Tryz.underlying133 kr_ Tryz.sizeOf5 (by exact Tryz.zeroValue5) kr_ rfl om_ om_ om_) fun b22 _=>?_
  rw[zeros_byC]
  refine pA_ 6 ?_
  refine Lv (Val.indexAddrN (i:=0) rfl rfl Tryz.underlying133 Tryz.sizeOf5 om_)<|LeN (Eff.storeX (l:=byC (List.replicate 64 0)) (l':=byC ((List.replicate 64 0).set (0) (2))) rfl rfl rfl up_ (by have h8:=set_byC (List.replicate 64 0) (0) (2);simpa using h8) (by simp only[V.byC_len,List.length_replicate];omega) Tryz.sizeOf5) fun _ _=>pA_ 4 ?_
  refine Lv (Lw (l:=klC c g))<|Le (Cz_ (fbytes_g c g hg hl)) fun _ _=>pA_ 9 ?_
  refine Lv (Val.maxI rfl rfl)<|Lv Mv<|Lv LnS<|Lv (Val.minI rfl rfl)<|LW.re 34 (.int .i64 (wrN c i:Nat)) rfl (by congr 1;unfold wrN;split<;>split<;>omega)<|pA_ 4 ?_
  refine Dr ([])<|Rv 0 rfl Mv<|Rv 1 rfl (Val.slice 1 64 64 rfl Tryz.underlying133 Tryz.sizeOf5 ⟨_,rfl⟩ rfl rfl (fun _=>rfl) om_ om_ om_)<|RW.re 36 (.slice (some ⟨b22,1,none⟩) 63 63) rfl (by simp)<|pR_ [2,3] ?_
  refine Rv 4 rfl (Val.sliceStr (l:=bytesK c) (wrN c i) (bytesK c).length rfl Tryz.underlying9 ⟨_,rfl⟩ rfl (by unfold wrN;omega) om_)<|Re 5 rfl (Eff.copyStr (sz:=1) (T:=5) (gb:=b22) (cur:=byC ((List.replicate 64 0).set 0 2)) (cells':=byC (wrL c i)) (m:=(wrD c i).length) rfl rfl Tryz.underlying133 kr_ up_ (by have h8:=wr_copy (wrD_le c i);rw[show(((bytesK c).drop (wrN c i)).take ((bytesK c).length-wrN c i)).take (wrD c i).length=wrD c i by unfold wrD;simp[List.take_take]];exact h8) (by show min _ _=_;unfold wrD;simp only[List.length_take,List.length_drop];omega) (by have:=wrD_le c i;rw[V.byC_len];simp;omega)) fun _ _=>pA_ 4 ?_
  refine Le (CV fun w hw=>adev_g x s xd.db w hw.at hw.at) ?_
  intro _ _
  refine Lv Mv<|Lv Mv<|Lv Ar<|Lv Mv<|Le (CM (vS xd v) fun w hw hs0=>by have h8:=store_v xd v (line+i) 0 (wrL c i) (some ⟨b22,0,none⟩) 64 (by rw[wrL_len];omega) w hs0 (byE_of (hw.own _ (show InS (b22,.cells (byC (wrL c i)).toArray 5 (0,0)) _ from in_).mem)) (fun _ b q hb=>by simp only[Option.some.injEq,Addr.mk.injEq] at hb;obtain⟨rfl,_⟩:=hb;exact not_in hw (show Pick (vS xd v) _ _ from pk_) (show InS (b22,.cells (byC (wrL c i)).toArray 5 (0,0)) _ from in_));rw[wrL_len] at h8;exact h8) fun _ _=>Nl<|Ps<|Sq<|Rg<|Lv Mv<|Lv Ar<|Lv Mv<|Le (Cz_ (span_c k)) fun _ _=>Lv Cm<|Lv Av<|Nl<|Ps<|Rt<|Rt1 ?_
  have e1:writeD v c line k i=v.store (line+i) 0 (wrL c i):=if_neg h15
  rw[e1]
  exact fi_ () trivial
end
end G
end Go.Proofs.YtjidffamcdcecaaGreat
namespace Go.Proofs.YtjidffamcdcecaaGreat.V
open Go Go.RowKit Go.MapKept
set_option linter.unusedVariables false
section
variable {P:Program}{n:Nat}{B:Base}{ks:Ks}{sg:Sg}{d:Option Tmp}{ty:TypeId}{pos:String}{aft:Array Edge}{g:Option (Nat×Bool)}
theorem Val.lookup1 {t kt et:TypeId}{x y:Operand}{b c:Nat}{E:ME}{k:ByteArray}{z:Value}(hx:ev ks x=some (.map (some b)))(hy:ev ks y=some (.string k))(hu:P.underlying t=some (.map kt et))(hk:P.underlying kt=some .string)(hz:∀w,(zeroValue et).run P w= .ok z w)(hm:InS (b,mpO E c) sg):
 Val P n B ⟨d,.lookup t x y false,ty,pos,aft,g⟩ ks sg ((mget E k).getD z):=fun a w ha hw=>by
 show(do pure (Next.value (← Instr.lookup t (a.eval x) (a.eval y) false)):Sem Next).run P w=_
 rw[ha.ev hx,ha.ev hy]
 refine run_value ?_
 have hb:w.heap[b]? =some (.map (E.map mE).toArray c):=hw.own _ hm.mem
 have hc:∀e,(Instr.checkKey e 10000 kt (.string k)).run P w= .ok () w:=fun e=>run_checkKey hk (show IsKey .string (.string k) from trivial) e 9999
 have hf:=run_findKey_m (P:=P) (w:=w) (k:=k) (E:=E) hk
 have hg:=mfind_get k E 0
 simp only[Instr.lookup,Sem.run_bind,run_underlying hu,Result.andThen_ok,MapKept.run_getObj_map hb,Sem.run_pure,hc,hf]
 cases hq:mfind E k 0 with
 |none=>rw[hq] at hg;simp only[Option.map_none] at hg;simp[← hg,hz]
 |some p=>rw[hq] at hg;simp only[Option.map_some] at hg;simp[← hg]
end
def keyD (E:ME):DataW Unit:= .map ((E.map fun e=>((Lit.string e.2.1.data.toList,DataW.nil):Lit×DataW Unit)).foldr DataW.insert [])
theorem keyD_size (E:ME):Maps.size (keyD E)=E.length:=by
 show((E.map fun e=>((Lit.string e.2.1.data.toList,DataW.nil):Lit×DataW Unit)).foldr DataW.insert []).length=_
 rw[length_sorted,List.length_map]
theorem keyD_keys (E:ME):(Go.strKeys (keyD E)).Perm (E.map fun e=>e.2.1.data.toList):=by
 have h:=(Go.WideShapes.sorted_perm (E.map fun e=>((Lit.string e.2.1.data.toList,DataW.nil):Lit×DataW Unit))).map (fun p=>Go.strOf p.1)
 simp only[List.map_map] at h
 exact h
theorem owns_keys {P:Program}{kt:TypeId}(hk:P.underlying kt=some .string){E:ME}{b c:Nat}(hE:mnd E)(hS:Stp E c)(hs:∀e∈E,e.2.1.size≤maxLen)(hn:E.length≤maxLen){w:World}(hb:w.heap[b]? =some (mpO E c)):w.ownsMap P kt (fun _=>some (DataW.nil,[])) b E.length (keyD E):=by
 have hrd:∀e∈E,Go.WideElems.rd P kt (fun _=>some ((DataW.nil:DataW Unit),[])) (mE e)=some (Lit.string e.2.1.data.toList,DataW.nil):=fun e he=>by
  simp[Go.WideElems.rd,mE,Go.WideMaps.keyOf_string_mk hk (hs e he)]
 refine⟨(E.map mE).toArray,c,hb,⟨by simpa using hn,⟨fun x hx=>?_,?_,?_⟩,fun x hx=>?_⟩,by simp,?_⟩
 ·simp only[List.mem_map] at hx
  obtain⟨e,he,rfl⟩:=hx
  exact hS.lt e he
 ·simp only[List.map_map]
  exact hS.nd
 ·simp only[List.map_map]
  have:(E.map (fun e=>e.2.1)).Nodup:=hE
  have h2:=List.Pairwise.map (R:=(· ≠·)) (S:=(· ≠·)) (fun k:ByteArray=>Value.string k) (fun a b hab h=>hab (by injection h)) this
  simpa[List.map_map,Function.comp_def,mE,List.Nodup] using h2
 ·simp only[List.mem_map] at hx
  obtain⟨e,he,rfl⟩:=hx
  exact⟨_,hrd e he⟩
 ·unfold keyD
  congr 2
  simp only[List.map_map]
  refine List.map_congr_left fun e he=>?_
  simp[Go.WideElems.rg,hrd e he]
end Go.Proofs.YtjidffamcdcecaaGreat.V
namespace Go.Proofs
open Go.Shelf
def Tryz.keys209_ren:Go.Shelf.Ren:=⟨fun|7=>209|10=>244|n=>n,fun|23=>167|26=>9|3=>108|28=>319|0=>0|27=>318|33=>345|4=>4|n=>n,fun|n=>n⟩
theorem Tryz.keys209:Go.Proofs.SlLaysZ.n7 Tryz.prog Tryz.keys209_ren:={
 mixed:=by kernel_rfl
 f7:=⟨Tryz.f209.name,by decide,Tryz.func209.trans (congrArg some (by kernel_rfl))⟩
 f10:=⟨Tryz.f244.name,by decide,Tryz.func244.trans (congrArg some (by kernel_rfl))⟩
 t0:=Tryz.underlying0
 a0:=Tryz.isAgg0
 z0:=Tryz.sizeOf0
 v0:=Tryz.zeroValue0
 t4:=Tryz.underlying4
 a4:=Tryz.isAgg4
 z4:=Tryz.sizeOf4
 v4:=Tryz.zeroValue4
 t23:=Tryz.underlying167
 a23:=Tryz.isAgg167
 z23:=Tryz.sizeOf167
 v23:=Tryz.zeroValue167
 t26:=Tryz.underlying9
 a26:=Tryz.isAgg9
 z26:=Tryz.sizeOf9
 v26:=Tryz.zeroValue9
 t27:=Tryz.underlying318
 a27:=Tryz.isAgg318
 z27:=Tryz.sizeOf318
 v27:=Tryz.zeroValue318
 t28:=Tryz.underlying319
 a28:=Tryz.isAgg319
 z28:=Tryz.sizeOf319
 v28:=Tryz.zeroValue319
 t33:=Tryz.underlying345
 a33:=Tryz.isAgg345
 z33:=Tryz.sizeOf345
 v33:=Tryz.zeroValue345}
def Tryz.sorted208_ren:Go.Shelf.Ren:=⟨fun|6=>208|8=>242|9=>243|11=>266|13=>91|12=>267|23=>134|24=>135|14=>279|15=>280|16=>281|17=>282|18=>283|19=>284|20=>285|21=>286|22=>287|25=>289|26=>177|27=>178|28=>290|29=>291|30=>292|31=>293|n=>n,fun|26=>9|28=>319|24=>38|0=>0|3=>3|37=>114|48=>93|50=>48|4=>4|40=>241|39=>240|45=>245|5=>5|9=>9|51=>288|55=>291|57=>330|58=>331|33=>345|n=>n,fun|n=>n⟩
theorem Tryz.sorted208:Go.Proofs.SlLaysZ.n6 Tryz.prog Tryz.sorted208_ren:={
 mixed:=by kernel_rfl
 f6:=⟨Tryz.f208.name,by decide,Tryz.func208.trans (congrArg some (by kernel_rfl))⟩
 f8:=⟨Tryz.f242.name,by decide,Tryz.func242.trans (congrArg some (by kernel_rfl))⟩
 f11:=⟨Tryz.f266.name,by decide,Tryz.func266.trans (congrArg some (by kernel_rfl))⟩
 t0:=Tryz.underlying0
 a0:=Tryz.isAgg0
 z0:=Tryz.sizeOf0
 v0:=Tryz.zeroValue0
 t24:=Tryz.underlying38
 a24:=Tryz.isAgg38
 z24:=Tryz.sizeOf38
 v24:=Tryz.zeroValue38
 t26:=Tryz.underlying9
 a26:=Tryz.isAgg9
 z26:=Tryz.sizeOf9
 v26:=Tryz.zeroValue9
 t28:=Tryz.underlying319
 a28:=Tryz.isAgg319
 z28:=Tryz.sizeOf319
 v28:=Tryz.zeroValue319
 i26:=by kernel_rfl}
def Tryz.sort243_ren:Go.Shelf.Ren:=⟨fun|6=>243|8=>91|9=>267|19=>134|20=>135|21=>279|22=>280|23=>281|24=>282|25=>283|26=>284|27=>285|28=>286|29=>287|36=>289|31=>177|32=>178|37=>290|38=>291|39=>292|41=>293|n=>n,fun|27=>38|29=>9|3=>3|32=>114|26=>38|0=>0|44=>93|46=>48|4=>4|36=>241|35=>240|41=>245|5=>5|9=>9|53=>288|57=>291|63=>330|64=>331|n=>n,fun|n=>n⟩
theorem Tryz.sort243:Go.Proofs.SlLaysM.n6 Tryz.prog Tryz.sort243_ren:={
 mixed:=by kernel_rfl
 f6:=⟨Tryz.f243.name,by decide,Tryz.func243.trans (congrArg some (by kernel_rfl))⟩
 f8:=Tryz.func91.trans (congrArg some (by kernel_rfl))
 f9:=⟨Tryz.f267.name,by decide,Tryz.func267.trans (congrArg some (by kernel_rfl))⟩
 f19:=Tryz.func134.trans (congrArg some (by kernel_rfl))
 f20:=Tryz.func135.trans (congrArg some (by kernel_rfl))
 f21:=⟨Tryz.f279.name,by decide,Tryz.func279.trans (congrArg some (by kernel_rfl))⟩
 f22:=⟨Tryz.f280.name,by decide,Tryz.func280.trans (congrArg some (by kernel_rfl))⟩
 f23:=⟨Tryz.f281.name,by decide,Tryz.func281.trans (congrArg some (by kernel_rfl))⟩
 f24:=⟨Tryz.f282.name,by decide,Tryz.func282.trans (congrArg some (by kernel_rfl))⟩
 f25:=⟨Tryz.f283.name,by decide,Tryz.func283.trans (congrArg some (by kernel_rfl))⟩
 f26:=⟨Tryz.f284.name,by decide,Tryz.func284.trans (congrArg some (by kernel_rfl))⟩
 f27:=⟨Tryz.f285.name,by decide,Tryz.func285.trans (congrArg some (by kernel_rfl))⟩
 f28:=⟨Tryz.f286.name,by decide,Tryz.func286.trans (congrArg some (by kernel_rfl))⟩
 f29:=⟨Tryz.f287.name,by decide,Tryz.func287.trans (congrArg some (by kernel_rfl))⟩
 f31:=Tryz.func177.trans (congrArg some (by kernel_rfl))
 f32:=Tryz.func178.trans (congrArg some (by kernel_rfl))
 f36:=⟨Tryz.f289.name,by decide,Tryz.func289.trans (congrArg some (by kernel_rfl))⟩
 f37:=⟨Tryz.f290.name,by decide,Tryz.func290.trans (congrArg some (by kernel_rfl))⟩
 f38:=⟨Tryz.f291.name,by decide,Tryz.func291.trans (congrArg some (by kernel_rfl))⟩
 f39:=⟨Tryz.f292.name,by decide,Tryz.func292.trans (congrArg some (by kernel_rfl))⟩
 f41:=⟨Tryz.f293.name,by decide,Tryz.func293.trans (congrArg some (by kernel_rfl))⟩
 t0:=Tryz.underlying0
 a0:=Tryz.isAgg0
 z0:=Tryz.sizeOf0
 v0:=Tryz.zeroValue0
 t3:=Tryz.underlying3
 a3:=Tryz.isAgg3
 z3:=Tryz.sizeOf3
 v3:=Tryz.zeroValue3
 t4:=Tryz.underlying4
 a4:=Tryz.isAgg4
 z4:=Tryz.sizeOf4
 v4:=Tryz.zeroValue4
 t5:=Tryz.underlying5
 a5:=Tryz.isAgg5
 z5:=Tryz.sizeOf5
 v5:=Tryz.zeroValue5
 t9:=Tryz.underlying9
 a9:=Tryz.isAgg9
 z9:=Tryz.sizeOf9
 v9:=Tryz.zeroValue9
 t26:=Tryz.underlying38
 a26:=Tryz.isAgg38
 z26:=Tryz.sizeOf38
 v26:=Tryz.zeroValue38
 t27:=Tryz.underlying38
 a27:=Tryz.isAgg38
 z27:=Tryz.sizeOf38
 v27:=Tryz.zeroValue38
 t29:=Tryz.underlying9
 a29:=Tryz.isAgg9
 z29:=Tryz.sizeOf9
 v29:=Tryz.zeroValue9
 t32:=Tryz.underlying114
 a32:=Tryz.isAgg114
 z32:=Tryz.sizeOf114
 v32:=Tryz.zeroValue114
 t35:=Tryz.underlying240
 a35:=Tryz.isAgg240
 z35:=Tryz.sizeOf240
 v35:=Tryz.zeroValue240
 t36:=Tryz.underlying241
 a36:=Tryz.isAgg241
 z36:=Tryz.sizeOf241
 v36:=Tryz.zeroValue241
 t41:=Tryz.underlying245
 a41:=Tryz.isAgg245
 z41:=Tryz.sizeOf245
 v41:=Tryz.zeroValue245
 t44:=Tryz.underlying93
 a44:=Tryz.isAgg93
 z44:=Tryz.sizeOf93
 v44:=Tryz.zeroValue93
 t46:=Tryz.underlying48
 a46:=Tryz.isAgg48
 z46:=Tryz.sizeOf48
 v46:=Tryz.zeroValue48
 t53:=Tryz.underlying288
 a53:=Tryz.isAgg288
 z53:=Tryz.sizeOf288
 v53:=Tryz.zeroValue288
 t57:=Tryz.underlying291
 a57:=Tryz.isAgg291
 z57:=Tryz.sizeOf291
 v57:=Tryz.zeroValue291
 t63:=Tryz.underlying330
 a63:=Tryz.isAgg330
 z63:=Tryz.sizeOf330
 v63:=Tryz.zeroValue330
 t64:=Tryz.underlying331
 a64:=Tryz.isAgg331
 z64:=Tryz.sizeOf331
 v64:=Tryz.zeroValue331}
end Go.Proofs
namespace Go.Proofs.YtjidffamcdcecaaGreat
open Go Go.RowKit V
set_option linter.unusedVariables false
set_option maxRecDepth 100000
set_option maxHeartbeats 1000000
namespace G
section
attribute [local irreducible] V.CW V.LW V.QW V.RW V.PQ V.Val V.Eff V.Qcall
open V (str byC ownV ownG ownS ownOk)
instance:Cal Tryz.prog 208:=⟨Tryz.call208⟩
instance:Cal Tryz.prog 209:=⟨Tryz.call209⟩
def minL:List Lk→Option Lk
 |[]=>none
 |x::r=>match minL r with
  |none=>some x
  |some y=>if y.key<x.key then some y else some x
def bkL (Tz:Tbl)(b:Int):List Lk:=if 0≤b∧b<8 then((Tz[b.toNat]?).map fun p=>p.1.map (·.2)).getD [] else[]
def tNext (Tz:Tbl)(b:Int)(pos:List UInt8)(past:Bool):Option Lk:=minL ((bkL Tz b).filter fun l=> !past||decide (pos<l.key))
theorem minL_mem:∀{L:List Lk} {x:Lk},minL L=some x→x∈L∧∀y∈L,¬y.key<x.key
 |[],x,h=>by cases h
 |a::r,x,h=>by
  rw[minL] at h
  cases hm:minL r with
  |none=>
   rw[hm] at h
   have hr:r=[]:=by
    cases r with
    |nil=>rfl
    |cons z q=>
     rw[minL] at hm
     split at hm
     ·cases hm
     ·split at hm<;>cases hm
   subst hr
   simp only[Option.some.injEq] at h
   subst h
   exact⟨by simp,fun y hy=>by simp at hy;rw[hy];exact List.lt_irrefl _⟩
  |some y=>
   rw[hm] at h
   obtain⟨h1,h2⟩:=minL_mem hm
   simp only at h
   split at h
   ·rename_i h3
    simp only[Option.some.injEq] at h
    subst h
    refine⟨List.mem_cons_of_mem _ h1,fun z hz=>?_⟩
    rcases List.mem_cons.1 hz with rfl|hz
    ·exact fun h4=>List.lt_irrefl _ (List.lt_trans h3 h4)
    ·exact h2 z hz
   ·rename_i h3
    simp only[Option.some.injEq] at h
    subst h
    refine⟨by simp,fun z hz=>?_⟩
    rcases List.mem_cons.1 hz with rfl|hz
    ·exact List.lt_irrefl _
    ·intro h4
     rcases Classical.em (z.key<y.key) with h5|h5
     ·exact h2 z hz h5
     ·exact h3 (List.lt_of_le_of_lt (List.not_lt.1 h5) h4)
theorem minL_none {L:List Lk}:minL L=none↔L=[]:=by
 cases L with
 |nil=>simp[minL]
 |cons x r=>
  rw[minL]
  split
  ·simp
  ·split<;>simp
theorem minL_is {L:List Lk}(hn:(L.map (·.key)).Nodup){x:Lk}(hx:x∈L)(h:∀y∈L,x.key≤y.key):minL L=some x:=by
 cases hm:minL L with
 |none=>rw[minL_none.1 hm] at hx;cases hx
 |some y=>
  obtain⟨h1,h2⟩:=minL_mem hm
  have h3:y.key=x.key:=List.le_antisymm (List.not_lt.1 (h2 x hx)) (h y h1)
  rw[key_one hn h1 hx h3]
theorem me_len (E:LE):(me E).length=E.length:=by unfold me;rw[List.length_map]
theorem me_nd {E:LE}(h:((E.map (·.2)).map (·.key)).Nodup):mnd (me E):=by
 unfold mnd me
 rw[List.map_map]
 have h1:=List.Pairwise.map (R:=(· ≠·)) (S:=(· ≠·)) byK (fun a b hab h=>hab (byK_inj.1 h)) h
 simpa[List.map_map,Function.comp_def,List.Nodup] using h1
theorem me_keys (E:LE):(me E).map (fun e=>e.2.1.data.toList)=(E.map (·.2)).map (·.key):=by
 unfold me;rw[List.map_map,List.map_map];rfl
theorem lget_mem {E:LE}(hn:((E.map (·.2)).map (·.key)).Nodup){x:Lk}(hx:x∈E.map (·.2)):lget E x.key=some x:=by
 obtain⟨e,he,rfl⟩:=List.mem_map.1 hx
 unfold lget
 cases hf:E.find? fun z=>decide (z.2.key=e.2.key) with
 |none=>exact absurd (List.find?_eq_none.1 hf e he) (by simp)
 |some z=>
  have h1:=List.find?_some hf
  have h2:=List.mem_of_find?_eq_some hf
  simp only[decide_eq_true_eq] at h1
  rw[Option.map_some,key_one hn (List.mem_map_of_mem h2) hx h1]
theorem lt_dec (a b:List UInt8):(!(Op.bytesLess (⟨b.toArray⟩:ByteArray).toList (⟨a.toArray⟩:ByteArray).toList||decide ((⟨b.toArray⟩:ByteArray)=⟨a.toArray⟩)))=decide (a<b):=by
 rw[ByteArray.toList_eq,ByteArray.toList_eq,Go.Proofs.bytesLess_eq,Bool.eq_iff_iff]
 simp only[Bool.not_eq_true',Bool.or_eq_false_iff,decide_eq_false_iff_not,decide_eq_true_eq]
 constructor
 ·rintro⟨h1,h2⟩
  rcases Classical.em (a<b) with h3|h3
  ·exact h3
  ·exact absurd (byK_inj.2 (List.le_antisymm (List.not_lt.1 h3) (List.not_lt.1 h1))) h2
 ·intro h
  refine⟨fun h1=>List.lt_irrefl _ (List.lt_trans h h1),fun h2=>?_⟩
  rw[byK_inj.1 h2] at h
  exact List.lt_irrefl _ h
theorem keys_c2 (b:Nat):Mz Tryz.prog 209 [.map (some b)] (fun kb:Nat=>True) (fun kb=> .func (.func 244) #[] #[.pointer (some ⟨kb,0,none⟩)]) (fun kb=>[[(kb,.cells [.map (some b)].toArray 167 (0,0))]]):=by
 intro w
 have h:=(callsIn_wide (n:=5)).1 (AnyZ.keys_in Tryz.keys209 Fence.wide 5 trivial rfl (some b) w)
 change Calls Tryz.prog 209 _ _ _ at h
 refine h.mono fun e w' ⟨h1,h2⟩=>⟨w.heap.size,trivial,h1,?_⟩
 subst h2
 have h0:Hp ⟨w,[]⟩ [] w:=⟨rfl,rfl,rfl,Nat.le_refl _,fun _ _ _=>rfl,by simp,by simp,by simp⟩
 exact h0.alloc _
theorem sortsIn2 (m:Nat):AnyZ.SortsIn Tryz.prog Tryz.sorted208_ren Fence.wide m:=
 ⟨fun blk off cap ss W hH hblk hsz=>callsIn_wide.2 (AnyM.slices_Sort_string Tryz.sort243 blk off cap ss W hH hblk hsz),
  fun p cap W=>callsIn_wide.2 (AnyM.slices_Sort_string_none Tryz.sort243 p cap W)⟩
theorem sortedKeys_c2 (kb b c:Nat)(E:V.ME)(hE:mnd E)(hS:Stp E c)(hk:∀e∈E,e.2.1.size≤maxLen)(hn:E.length≤100000)(w:World)(hs:Sat [[(kb,.cells [.map (some b)].toArray 167 (0,0))]] w)(hb:w.heap[b]? =some (mpO E c)):
 Calls Tryz.prog 208 [.func (.func 244) #[] #[.pointer (some ⟨kb,0,none⟩)]].toArray w fun e w'=>∃y:V.OwnO×List (List UInt8),((y.2.Perm (E.map fun e=>e.2.1.data.toList)∧y.2.Pairwise (· <·))∧ownOk 1 y.2.length (y.2.map str) y.1)∧e= .returned (ownV y.2.length y.1)∧Hp ⟨w,[]⟩ [ownG 9 (y.2.map str) y.1] w':=by
 have hkb:w.heap[kb]? =some (.cells [.map (some b)].toArray 167 (0,0)):=hs.own (kb,.cells [.map (some b)].toArray 167 (0,0)) (by simp)
 have hlen:E.length≤maxLen:=by unfold maxLen;omega
 have hown:=V.owns_keys (P:=Tryz.prog) (kt:=9) Tryz.underlying9 hE hS hk hlen hb
 have hseq:SeqGives Fence.wide 2 Tryz.prog 244 #[.pointer (some ⟨kb,0,none⟩)] Go.Proofs.encStr (fun ss=>ss.Perm (Go.strKeys (V.keyD E))) (Maps.size (V.keyD E)) w:=
  AnyZ.keys_gives (ρ:=Tryz.keys209_ren) {Tryz.keys209 with} Fence.wide _ trivial rfl om_ kb b E.length (V.keyD E) w (V.lt_of_some hkb) (V.cell_of_block hkb rfl) hown
 have hcon:=AnyZ.sorted_in Tryz.sorted208 Fence.wide 5 trivial trivial trivial trivial rfl om_ (sortsIn2 _) (enters_of Tryz.func243 kr_ rfl) 244 #[.pointer (some ⟨kb,0,none⟩)] trivial (enters_of Tryz.func244 kr_ rfl) _ _ (by rw[V.keyD_size];exact hlen) (by rw[V.keyD_size];omega) w hseq
 have hcon2:=(callsIn_wide (n:=5)).1 hcon
 change Calls Tryz.prog 208 _ _ _ at hcon2
 refine hcon2.mono fun e w' ⟨v,ss,h1,h2,h3,h4,h5⟩=>?_
 have hp:(ss.mergeSort fun x y=>decide (x≤y)).Perm ss:=List.mergeSort_perm _ _
 have hle:(ss.mergeSort fun x y=>decide (x≤y)).length=ss.length:=hp.length_eq
 rw[← hle] at h3
 obtain⟨o,hv,hok,hhp⟩:=V.hp_of_below h5 h3
 have hperm:(ss.mergeSort fun x y=>decide (x≤y)).Perm (E.map fun e=>e.2.1.data.toList):=hp.trans (h2.trans (V.keyD_keys E))
 have hnd:(E.map fun e=>e.2.1.data.toList).Nodup:=by
  have hE':(E.map (fun e=>e.2.1)).Nodup:=hE
  have:=List.Pairwise.map (R:=(· ≠·)) (S:=(· ≠·)) (fun k:ByteArray=>k.data.toList) (fun a b hab h=>hab (by
   have h8:a.data=b.data:=Array.toList_inj.1 h
   cases a;cases b;simp at h8;rw[h8])) hE'
  simpa[List.map_map,Function.comp_def,List.Nodup] using this
 have hsort:(ss.mergeSort fun x y=>decide (x≤y)).Pairwise (fun a b=>decide (a≤b)=true):=List.pairwise_mergeSort (fun a b c h1 h2=>by simp only[decide_eq_true_eq] at*;exact List.le_trans h1 h2) (fun a b=>by simp only[Bool.or_eq_true,decide_eq_true_eq];exact List.le_total a b) ss
 have hnd2:=(List.Perm.nodup_iff hperm).2 hnd
 refine⟨(o,ss.mergeSort fun x y=>decide (x≤y)),⟨⟨hperm,?_⟩,hok⟩,by rw[h1,hv],hhp⟩
 refine(List.pairwise_and_iff.2 ⟨hsort,hnd2⟩).imp ?_
 intro a b ⟨h6,h7⟩
 have h8:a≤b:=of_decide_eq_true h6
 rcases Classical.em (a<b) with h9|h9
 ·exact h9
 ·exact absurd (List.le_antisymm h8 (List.not_lt.1 h9)) h7
theorem own_some2 {sz n:Nat}{xs:List Value}{o:V.OwnO}(h:ownOk sz n xs o)(hn:0<n):∃q,o=some q:=by
 cases o with
 |none=>exact absurd h.2 om_
 |some q=>exact⟨q,rfl⟩
theorem nd_filter {L:List Lk}(p:Lk→Bool)(h:(L.map (·.key)).Nodup):((L.filter p).map (·.key)).Nodup:=(List.filter_sublist.map _).nodup h
theorem tnext_g (tb:Nat)(ms:List Nat)(Tz:Tbl)(hT:tbOk ms Tz)(hI:tInv Tz)(hn:(tLinks Tz).length≤1000)(hkl:∀l∈tLinks Tz,l.key.length≤100000)(b:Int)(pos:List UInt8)(past:Bool):Rx Tryz.prog 165 [.pointer (some ⟨tb,0,none⟩),.int .i64 b,str pos,.bool past] (tbS tb ms Tz) (.tuple #[.agg (lkC ((tNext Tz b pos past).getD lk0)).toArray,.bool (tNext Tz b pos past).isSome]):=by
 intro w hs
 refine Ca_ Tryz.func165 rfl Tryz.ntmps165 hs<|Sq<|Rg<|Le AA fun b8 _=>pA_ 13 ?_
 refine LW.split (d:=19) rfl (fun h19=>?_) (fun h19=>?_)
 ·replace h19:=bT h19
  refine Lp<|Lp<|Lv Pt<|Nl<|Ps<|Ct<|Sq<|Rg<|Lv (Bd [_,_,_,_,_])<|LeN StW fun _ _=>Lv Av<|Nl<|Ps<|Rt<|Tr<|PQ.retCT rfl rfl rfl in_ Tryz.isAgg108 (by exact Tryz.sizeOf108) ?_
  have e1:tNext Tz b pos past=none:=by
   unfold tNext bkL
   rw[if_neg om_]
   rfl
  rw[e1]
  exact fr_ hs
 ·replace h19:=bF h19
  refine pA_ 5 ?_
  refine Cd_ rfl (fun h22=>?_) fun h22=>?_
  ·refine Sq<|Rg<|Lv (Bd [_,_,_,_,_])<|LeN StW fun _ _=>Lv Av<|Nl<|Ps<|Rt<|Tr<|PQ.retCT rfl rfl rfl in_ Tryz.isAgg108 (by exact Tryz.sizeOf108) ?_
   have e1:tNext Tz b pos past=none:=by
    unfold tNext bkL
    rw[if_neg om_]
    rfl
   rw[e1]
   exact fr_ hs
  ·obtain⟨nb,rfl⟩:=Int.eq_ofNat_of_zero_le (show 0≤b by omega)
   have hbk:nb<8:=by omega
   obtain⟨m,hm⟩:∃m,ms[nb]? =some m:=⟨ms[nb]'(by rw[hT.1];omega),by simp⟩
   obtain⟨p,hp⟩:∃p,Tz[nb]? =some p:=⟨Tz[nb]'(by rw[hT.2];omega),by simp⟩
   have hpm:=List.mem_of_getElem? hp
   have hnd:=le_nd hI hp
   have hbl:bkL Tz (nb:Nat)=p.1.map (·.2):=by unfold bkL;rw[if_pos om_,Int.toNat_natCast,hp];rfl
   have hpl:p.1.length≤1000:=by
    have h8:=(tLinks_split hp p).1
    have h9:=congrArg List.length h8
    simp only[List.length_append,List.length_map] at h9
    omega
   have hkm:∀e∈me p.1,e.2.1.size≤maxLen:=fun e he=>by
    unfold me at he
    obtain⟨z,hz,rfl⟩:=List.mem_map.1 he
    have h8:=hkl z.2 (List.mem_flatMap.2 ⟨p,hpm,List.mem_map_of_mem hz⟩)
    show(byK z.2.key).size≤maxLen
    unfold maxLen byK;simp only[ByteArray.size,List.size_toArray];omega
   refine Sk<|Ps<|Sq<|Rg<|Lv Mv<|Lv Mv<|Lv Nz<|Lv (Fa 0 168)<|Lv (Val.indexAddrA (i:=nb) rfl rfl Tryz.underlying168 Tryz.sizeOf167 om_)<|Lv (Ld (v:= .map (some m)) (hl:=tbC_at hm))<|Lv Av<|Nl<|Ps<|Sq<|Sq<|Rg<|Lv Mv<|Le (Cn_ (keys_c2 m)) fun kb _=>Le (CM [] fun w hw hs0=>sortedKeys_c2 kb m p.2 (me p.1) (me_nd hnd) (hI.st p hpm) hkm (by rw[me_len];omega) w (hw.sat.pick (ss:=[[(kb,.cells [.map (some m)].toArray 167 (0,0))]]) pk_) (hw.own _ (show InS (m,mpO (me p.1) p.2) _ from(by repeat(first|exact InS.nth (tbM_at hm hp)|refine .there ?_))).mem)) ?_
   rintro⟨o,ss⟩ ⟨⟨hp9,hu⟩,hok⟩
   simp only at hp9 hu hok
   rw[me_keys] at hp9
   refine Lv (Val.lenOwn rfl Tryz.underlying38 hok)<|pA_ 4 ?_
   refine loopA (γ:=Nat) (fun k=>[(2,str pos),(3,.bool past),(8,.pointer (some ⟨b8,0,none⟩)),(9,.bool false),(10,.map (some m)),(32,ownV ss.length o),(33,.int .i64 (ss.length:Nat)),(34,.int .i64 (k:Nat))]) (fun _=>[[(b8,.cells (lkC lk0).toArray 108 (0,0))]]++tbS tb ms Tz++[ownG 9 (ss.map str) o]) (fun k=>k≤ss.length∧∀(i:Nat) (s:List UInt8),i<k→ss[i]? =some s→past=true∧¬pos<s) (fun k=>ss.length-k) (0) ⟨Nat.zero_le _,fun i s h=>by omega⟩ fun k hJ=>?_
   have hJ1:=hJ.1
   have hsl:ss.length≤1000:=by have h1:=hp9.length_eq;simp only[List.length_map] at h1;omega
   refine pA_ 6 ?_
   refine Cd_ rfl (fun h35=>?_) fun h35=>?_
   ·obtain⟨⟨g,rest,capl⟩,rfl⟩:=own_some2 hok om_
    obtain⟨s,hs1⟩:∃s,ss[k]? =some s:=⟨ss[k]'om_,by simp⟩
    obtain⟨y,hy1,hy2⟩:∃y∈p.1.map (·.2),y.key=s:=by
     obtain⟨y,h8,h9⟩:=List.mem_map.1 (hp9.subset (List.mem_of_getElem? hs1))
     exact⟨y,h8,h9⟩
    have hy3:mget (me p.1) ⟨s.toArray⟩=some (lkW y):=by
     have h8:=mget_me s p.1
     rw[← hy2,lget_mem hnd hy1] at h8
     rw[← hy2];exact h8
    refine pA_ 6 ?_
    refine Lv (Val.indexAddrN (i:=k) rfl rfl Tryz.underlying38 Tryz.sizeOf9 om_) ?_
    refine LW.v rfl rfl (Val.load (l:=ss.map str++rest) (v:=str s) rfl Tryz.isAgg9 (show InS (g,.cells (ss.map str++rest).toArray 9 (0,0)) _ from in_) (by rw[Nat.zero_add,Nat.mul_one,List.getElem?_append_left (by simpa using(List.getElem?_eq_some_iff.1 hs1).1)];simp[hs1])) ?_
    refine pA_ 8 ?_
    refine LW.split (d:=40) rfl (fun h40=>?_) (fun h40=>?_)
    ·replace h40:=bT h40
     refine Lp<|Lp<|Lp<|Lv Pt<|Nl<|Ps<|Ct<|Sq<|Rg<|Lv Mv<|Lv Mv<|Lv (Val.lookup1 (k:=⟨s.toArray⟩) rfl rfl Tryz.underlying167 Tryz.underlying9 Tryz.zeroValue108 (by repeat(first|exact InS.nth (tbM_at hm hp)|refine .there ?_)))<|LW.re 47 (.agg (lkC y).toArray) rfl (by rw[hy3];rfl)<|LeN StW fun _ _=>Lv Av<|Nl<|Ps<|Rt<|Br<|Tr<|Tr<|Br<|Tr<|PQ.retCT rfl rfl rfl in_ Tryz.isAgg108 (by exact Tryz.sizeOf108) ?_
     have e1:tNext Tz (nb:Nat) pos past=some y:=by
      unfold tNext
      rw[hbl]
      refine minL_is (nd_filter _ hnd) (List.mem_filter.2 ⟨hy1,by first|(rw[hy2];simp[h43];done)|(simp[h40];done)|(rw[hy2];simp_all)⟩) fun z hz=>?_
      obtain⟨hz1,hz2⟩:=List.mem_filter.1 hz
      have h1:z.key∈ss:=hp9.symm.subset (List.mem_map_of_mem hz1)
      obtain⟨i,hi⟩:=List.mem_iff_getElem?.1 h1
      have hil:=(List.getElem?_eq_some_iff.1 hi).1
      rcases Nat.lt_trichotomy i k with h2|h2|h2
      ·have h3:=hJ.2 i _ h2 hi
       rw[h3.1] at hz2
       simp only[Bool.not_true,Bool.false_or,decide_eq_true_eq] at hz2
       exact absurd hz2 h3.2
      ·subst h2;rw[hs1] at hi;rw[hy2,Option.some.inj hi];exact List.le_refl _
      ·have h3:=List.pairwise_iff_getElem.1 hu k i om_ hil h2
       rw[(List.getElem?_eq_some_iff.1 hs1).2,(List.getElem?_eq_some_iff.1 hi).2] at h3
       rw[hy2];exact List.le_of_lt h3
     rw[e1]
     exact fr_ hs
    ·replace h40:=bF h40
     refine Lv Mv<|Lv Mv<|Lv (Val.gtStr rfl rfl)<|LW.re 43 (.bool (decide (pos<s))) rfl (by first|rfl|rw[lt_dec]|(congr 1;exact lt_dec _ _))<|pA_ 3 ?_
     refine Cd_ rfl (fun h44=>?_) fun h44=>?_
     ·refine Sq<|Rg<|Lv Mv<|Lv Mv<|Lv (Val.lookup1 (k:=⟨s.toArray⟩) rfl rfl Tryz.underlying167 Tryz.underlying9 Tryz.zeroValue108 (by repeat(first|exact InS.nth (tbM_at hm hp)|refine .there ?_)))<|LW.re 47 (.agg (lkC y).toArray) rfl (by rw[hy3];rfl)<|LeN StW fun _ _=>Lv Av<|Nl<|Ps<|Rt<|Br<|Tr<|Tr<|Br<|Tr<|PQ.retCT rfl rfl rfl in_ Tryz.isAgg108 (by exact Tryz.sizeOf108) ?_
      have e1:tNext Tz (nb:Nat) pos past=some y:=by
       unfold tNext
       rw[hbl]
       refine minL_is (nd_filter _ hnd) (List.mem_filter.2 ⟨hy1,by first|(rw[hy2];simp[h43];done)|(simp[h40];done)|(rw[hy2];simp_all)⟩) fun z hz=>?_
       obtain⟨hz1,hz2⟩:=List.mem_filter.1 hz
       have h1:z.key∈ss:=hp9.symm.subset (List.mem_map_of_mem hz1)
       obtain⟨i,hi⟩:=List.mem_iff_getElem?.1 h1
       have hil:=(List.getElem?_eq_some_iff.1 hi).1
       rcases Nat.lt_trichotomy i k with h2|h2|h2
       ·have h3:=hJ.2 i _ h2 hi
        rw[h3.1] at hz2
        simp only[Bool.not_true,Bool.false_or,decide_eq_true_eq] at hz2
        exact absurd hz2 h3.2
       ·subst h2;rw[hs1] at hi;rw[hy2,Option.some.inj hi];exact List.le_refl _
       ·have h3:=List.pairwise_iff_getElem.1 hu k i om_ hil h2
        rw[(List.getElem?_eq_some_iff.1 hs1).2,(List.getElem?_eq_some_iff.1 hi).2] at h3
        rw[hy2];exact List.le_of_lt h3
      rw[e1]
      exact fr_ hs
     ·refine pA_ 7 ?_
      exact roundA (k+1) ⟨by omega,fun i q hi hq=>by rcases Nat.lt_or_ge i k with h1|h1;exact hJ.2 i q h1 hq;obtain rfl:i=k:=om_;rw[hs1] at hq;cases hq;exact⟨by simpa using h40,by simpa using h44⟩⟩ om_
   ·refine Xt<|Te<|Te<|Bh<|Ps<|Sq<|Rg<|Lv (Bd [_,_,_,_,_])<|LeN StW fun _ _=>Lv Av<|Nl<|Ps<|Rt<|PQ.retCT rfl rfl rfl in_ Tryz.isAgg108 (by exact Tryz.sizeOf108) ?_
    have e1:tNext Tz (nb:Nat) pos past=none:=by
     unfold tNext
     rw[hbl,minL_none,List.filter_eq_nil_iff]
     intro l hl
     have h1:l.key∈ss:=hp9.symm.subset (List.mem_map_of_mem hl)
     obtain⟨i,hi⟩:=List.mem_iff_getElem?.1 h1
     have h2:=hJ.2 i l.key (by have:=(List.getElem?_eq_some_iff.1 hi).1;omega) hi
     simp[h2.1,h2.2]
    rw[e1]
    exact fr_ hs
end
section
attribute [local irreducible] V.CW V.LW V.QW V.RW V.PQ V.Val V.Eff V.Qcall
open V (str byC ownV ownG ownS ownOk)
instance:Und Tryz.prog 209 (dOf Tryz.underlying209):=⟨Tryz.underlying209⟩
instance:Zer Tryz.prog 209 (zOf Tryz.zeroValue209):=⟨Tryz.zeroValue209⟩
instance:Cal Tryz.prog 164:=⟨Tryz.call164⟩
instance:Cal Tryz.prog 168:=⟨Tryz.call168⟩
instance:Cal Tryz.prog 169:=⟨Tryz.call169⟩
instance:Cal Tryz.prog 170:=⟨Tryz.call170⟩
instance:Cal Tryz.prog 171:=⟨Tryz.call171⟩
instance:Cal Tryz.prog 172:=⟨Tryz.call172⟩
instance:Cal Tryz.prog 173:=⟨Tryz.call173⟩
instance:Cal Tryz.prog 175:=⟨Tryz.call175⟩
structure FrB (f:Frm):Prop where
 g:f.g.length≤3000
 k:f.c.key.length≤3000∧f.c.val.length≤3000
 b:f.bs.length≤900
 pc:0≤f.pc∧f.pc≤900
 ol: -1000000≤f.old.line∧f.old.line≤1000000
 ln: -1000000≤f.line∧f.line≤1000000
def pEnterF (a:AS)(t:Int)(f:Frm):Frm:=if enterE a t f=0 then {enterF a t f with ph:=1} else enterF a t f
def pTakeF (a:AS)(f:Frm):Frm:=if takeE a (sizeK f.c)=0 then {f with cls:=takeC (sizeK f.c),line:=takeLn a (sizeK f.c),pc:=0,ph:=4} else failF {f with cls:=takeC (sizeK f.c)} (takeE a (sizeK f.c))
def pWriteV (v:Dev)(f:Frm):Dev:=writeD v f.c f.line f.cls f.pc
def pWriteF (f:Frm):Frm:=if f.pc+1=(spanF f.cls:Nat) then {f with pc:=0,ph:=5} else {f with pc:=f.pc+1}
def pReadF (f:Frm)(v:Dev)(kind:Int):Frm:=if readB f=true then(if fvK (readF f v).bs f.old kind=true then {readF f v with bs:=[],an:={f.an with fd:=true,val:=(fvB (readF f v).bs).val},ph:=6} else failF {readF f v with bs:=[]} 6) else readF f v
theorem FrOk.same {f g:Frm}{o:FrO}(h:FrOk f o)(h1:g.g=f.g)(h2:g.bs=f.bs)(h3:g.pa=f.pa)(h4:g.an.ps=f.an.ps)(h5:g.an.hs=f.an.hs):FrOk g o:=
 ⟨by rw[h1];exact h.gz,h.go,by rw[h2];exact h.bo,by rw[h3];exact h.po,by rw[h4];exact h.so,by rw[h5];exact h.ho⟩
theorem enterF_ok {f:Frm}{o:FrO}(h:FrOk f o)(a:AS)(t:Int){p:Int}:FrOk {enterF a t f with ph:=p} o:=by
 unfold enterF
 split<;>exact h.same rfl rfl rfl rfl rfl
theorem enterF_ok2 {f:Frm}{o:FrO}(h:FrOk f o)(a:AS)(t:Int):FrOk (enterF a t f) o:=by
 unfold enterF
 split<;>exact h.same rfl rfl rfl rfl rfl
theorem penter_g (wb:Nat)(T:TypeId)(x:ArR)(t:Int)(f:Frm)(o:FrO)(s:ArS)(xd:DvR)(v:Dev)(th n:Nat)(a:AS)(hG:ArG th n x s a)(hF:FrOk f o)(hB:FrB f)(hck:a.ck.Ok th):Mo Tryz.prog 118 [.pointer (some ⟨wb,0,none⟩)] (wsS wb T x t f o s xd v) (fun z:ArS×FrO=>ArG th n x z.1 (enterA a t f)∧FrOk (pEnterF a t f) z.2) (fun _=> .tuple #[]) (fun z=>wsS wb T x t (pEnterF a t f) z.2 z.1 xd (v)):=by
 intro w hs
 refine Ca_ Tryz.func118 rfl Tryz.ntmps118 hs<|Sq<|Dr ([])<|pR_ [0,1,2,4,5,6,8,9,10] ?_
 refine RW.batch [(3,5,_),(7,9,_)] 1 rfl kr_ rfl rfl (by simp) (by simp) ⟨⟨_,rfl,rfl,rfl,Eff.ofVal (Ld (v:= .pointer (some ⟨x.a,0,none⟩)))⟩,⟨_,rfl,rfl,rfl,Eff.ofVal (Ld (v:= .int .i64 t))⟩,trivial⟩ ⟨_,pk_⟩<|Re 11 rfl (Cm_ (fenter_g wb T x t f o s xd v th n a hG hF hB.g hck)) fun s2 hG2=>Rd<|Ps ?_
 refine Cd_ rfl (fun h13=>?_) fun h13=>?_
 ·have h13:enterE a t f=0:=h13
  refine pA_ 5 ?_
  refine LeN (sx_ (wkC x t ({enterF a t f with ph:=1}) (o))) fun _ _=>Nl<|PQ.end0 rfl ?_
  have e1:pEnterF a t f={enterF a t f with ph:=1}:=if_pos h13
  rw[e1]
  exact fi_ (s2,o) ⟨hG2,enterF_ok hF a t⟩
 ·have h13:¬enterE a t f=0:=h13
  refine Sk<|PQ.end0 rfl ?_
  have e1:pEnterF a t f=enterF a t f:=if_neg h13
  rw[e1]
  exact fi_ (s2,o) ⟨hG2,enterF_ok2 hF a t⟩
theorem ptakes_g (wb:Nat)(T:TypeId)(x:ArR)(t:Int)(f:Frm)(o:FrO)(s:ArS)(xd:DvR)(v:Dev)(th n:Nat)(a:AS)(hG:ArG th n x s a)(hF:FrOk f o)(hB:FrB f):Mo Tryz.prog 121 [.pointer (some ⟨wb,0,none⟩)] (wsS wb T x t f o s xd v) (fun z:ArS×FrO=>ArG th n x z.1 (takeA a (sizeK f.c))∧FrOk (pTakeF a f) z.2) (fun _=> .tuple #[]) (fun z=>wsS wb T x t (pTakeF a f) z.2 z.1 xd (v)):=by
 intro w hs
 have hk8:=hB.k
 have hz8: -100000≤(sizeK f.c)∧(sizeK f.c)≤100000:=by unfold sizeK;split;omega;split<;>omega
 refine Ca_ Tryz.func121 rfl Tryz.ntmps121 hs<|Sq<|Dr ([[(wb,.cells (wkC x t (f) (o)).toArray T (0,0))]])<|pR_ [0,1,2] ?_
 refine Rv 3 rfl (Ld (v:= .pointer (some ⟨x.a,0,none⟩)))<|pR_ [4,5,6,7] ?_
 refine Rv 8 rfl (La (klC f.c (ownV f.g.length o.go)) (hl:=rfl))<|Re 9 rfl (Cz_ (fsize_g f.c (ownV f.g.length o.go) (V.ownV_one _ _) om_)) fun _ _=>Re 10 rfl (Cm_ (ftake_g x s xd.db th n a hG (sizeK f.c) hz8)) fun s2 hG2=>pR_ [11,12,13,14,15,16,17] ?_
 refine pA_ 9 ?_
 refine LeN (sx_ (wkC x t ({f with cls:=takeC (sizeK f.c)}) (o))) fun _ _=>pA_ 9 ?_
 refine Cd_ rfl (fun h26=>?_) fun h26=>?_
 ·have h26:¬takeE a (sizeK f.c)=0:=h26
  refine pA_ 6 ?_
  refine Le (Cm_ (ffail_g wb T x t ({f with cls:=takeC (sizeK f.c)}) o (takeE a (sizeK f.c)))) fun _ _=>pA_ 4 ?_
  refine PQ.ret0 rfl ?_
  have e1:pTakeF a f=failF {f with cls:=takeC (sizeK f.c)} (takeE a (sizeK f.c)):=if_neg h26
  rw[e1]
  exact fi_ (s2,o) ⟨hG2,hF.same rfl rfl rfl rfl rfl⟩
 ·have h26:takeE a (sizeK f.c)=0:=by simpa using h26
  refine pA_ 10 ?_
  refine LeN (sx_ (wkC x t ({f with cls:=takeC (sizeK f.c),line:=takeLn a (sizeK f.c)}) (o))) fun _ _=>pA_ 3 ?_
  refine LeN (sx_ (wkC x t ({f with cls:=takeC (sizeK f.c),line:=takeLn a (sizeK f.c),pc:=0}) (o))) fun _ _=>pA_ 3 ?_
  refine LeN (sx_ (wkC x t ({f with cls:=takeC (sizeK f.c),line:=takeLn a (sizeK f.c),pc:=0,ph:=4}) (o))) fun _ _=>Nl<|PQ.end0 rfl ?_
  have e1:pTakeF a f={f with cls:=takeC (sizeK f.c),line:=takeLn a (sizeK f.c),pc:=0,ph:=4}:=if_pos h26
  rw[e1]
  exact fi_ (s2,o) ⟨hG2,hF.same rfl rfl rfl rfl rfl⟩
theorem pwrite_g (wb:Nat)(T:TypeId)(x:ArR)(t:Int)(f:Frm)(o:FrO)(s:ArS)(xd:DvR)(v:Dev)(th n:Nat)(a:AS)(hG:ArG th n x s a)(hF:FrOk f o)(hB:FrB f):Mo Tryz.prog 122 [.pointer (some ⟨wb,0,none⟩)] (wsS wb T x t f o s xd v) (fun z:ArS×FrO=>ArG th n x z.1 (a)∧FrOk (pWriteF f) z.2) (fun _=> .tuple #[]) (fun z=>wsS wb T x t (pWriteF f) z.2 z.1 xd (pWriteV v f)):=by
 intro w hs
 have hk8:=hB.k
 have hp8:=hB.pc
 refine Ca_ Tryz.func122 rfl Tryz.ntmps122 hs<|pA_ 9 ?_
 refine Dr ([[(wb,.cells (wkC x t (f) (o)).toArray T (0,0))]])<|pR_ [0,1,2] ?_
 refine Rv 3 rfl (Ld (v:= .pointer (some ⟨x.a,0,none⟩)))<|pR_ [4,5,6] ?_
 refine Rv 7 rfl (La (klC f.c (ownV f.g.length o.go)) (hl:=rfl))<|pR_ [8,9,10] ?_
 refine Rv 11 rfl (Ld (v:= .int .i64 f.line))<|pR_ [12,13,14] ?_
 refine Rv 15 rfl (Ld (v:= .int .i64 f.cls))<|pR_ [16,17,18] ?_
 refine Rv 19 rfl (Ld (v:= .int .i64 f.pc))<|Re 20 rfl (Cm_ (fwrite_g x s xd v f.c (ownV f.g.length o.go) (V.ownV_one _ _) om_ f.line f.cls f.pc om_ hB.ln)) fun _ _=>Rv 21 rfl Av<|pA_ 7 ?_
 refine Lv (Ld (v:= .int .i64 f.pc))<|pA_ 3 ?_
 refine LeN (sx_ (wkC x t ({f with pc:=f.pc+1}) (o))) fun _ _=>pA_ 7 ?_
 refine Cd_ rfl (fun h35=>?_) fun h35=>?_
 ·have h35:f.pc+1=(spanF f.cls:Nat):=h35
  refine pA_ 5 ?_
  refine LeN (sx_ (wkC x t ({f with pc:=0}) (o))) fun _ _=>Lv Nz<|Lv (Fa 5 3)<|LeN (sx_ (wkC x t ({f with pc:=0,ph:=5}) (o))) fun _ _=>Nl<|PQ.end0 rfl ?_
  have e1:pWriteF f={f with pc:=0,ph:=5}:=if_pos h35
  rw[e1]
  exact fi_ (s,o) ⟨hG,hF.same rfl rfl rfl rfl rfl⟩
 ·have h35:¬f.pc+1=(spanF f.cls:Nat):=h35
  refine Sk<|PQ.end0 rfl ?_
  have e1:pWriteF f={f with pc:=f.pc+1}:=if_neg h35
  rw[e1]
  exact fi_ (s,o) ⟨hG,hF.same rfl rfl rfl rfl rfl⟩
theorem pleave_g (wb:Nat)(T:TypeId)(x:ArR)(t:Int)(f:Frm)(o:FrO)(s:ArS)(xd:DvR)(v:Dev)(th n:Nat)(a:AS)(hG:ArG th n x s a)(hF:FrOk f o)(hB:FrB f):Mo Tryz.prog 124 [.pointer (some ⟨wb,0,none⟩)] (wsS wb T x t f o s xd v) (fun z:ArS×FrO=>ArG th n x z.1 (leaveA a t)∧FrOk (leaveF f) z.2) (fun _=> .tuple #[]) (fun z=>wsS wb T x t (leaveF f) z.2 z.1 xd (v)):=by
 intro w hs
 refine Ca_ Tryz.func124 rfl Tryz.ntmps124 hs<|Dr ([])<|pR_ [0,1,2,4,5,6,8,9,10] ?_
 refine RW.batch [(3,5,_),(7,9,_)] 1 rfl kr_ rfl rfl (by simp) (by simp) ⟨⟨_,rfl,rfl,rfl,Eff.ofVal (Ld (v:= .pointer (some ⟨x.a,0,none⟩)))⟩,⟨_,rfl,rfl,rfl,Eff.ofVal (Ld (v:= .int .i64 t))⟩,trivial⟩ ⟨_,pk_⟩<|Re 11 rfl (Cm_ (fleave_g wb T x t f o s xd v th n a hG hF)) fun s2 hG2=>Rd<|PQ.end0 rfl ?_
 exact fi_ (s2,o) ⟨hG2,hF.same rfl rfl rfl rfl rfl⟩
theorem pread_g (wb:Nat)(T:TypeId)(x:ArR)(t:Int)(f:Frm)(o:FrO)(s:ArS)(xd:DvR)(v:Dev)(th n:Nat)(a:AS)(hG:ArG th n x s a)(hF:FrOk f o)(hB:FrB f):Mo Tryz.prog 120 [.pointer (some ⟨wb,0,none⟩)] (wsS wb T x t f o s xd v) (fun z:ArS×FrO=>ArG th n x z.1 (a)∧FrOk (pReadF f v 1) z.2) (fun _=> .tuple #[]) (fun z=>wsS wb T x t (pReadF f v 1) z.2 z.1 xd (v)):=by
 intro w hs
 refine Ca_ Tryz.func120 rfl Tryz.ntmps120 hs<|pA_ 14 ?_
 refine Lv (Ld (v:= .pointer (some ⟨x.a,0,none⟩)))<|Lv Mv<|Le (Cm_ (fread_g wb T x t f o s xd v hF (by have:=hB.b;omega) (by have:=hB.pc;omega) hB.ol)) fun o2 ho2=>?_
 have hR:FrOk (readF f v) {o with bo:=o2}:=⟨hF.gz,hF.go,ho2,hF.po,hF.so,hF.ho⟩
 have hZ:FrOk {readF f v with bs:=[]} {o with bo:=none}:=⟨hF.gz,hF.go,⟨rfl,rfl⟩,hF.po,hF.so,hF.ho⟩
 refine pA_ 3 ?_
 refine Cd_ rfl (fun h14=>?_) fun h14=>?_
 ·refine Rt<|Tr<|PQ.ret0 rfl ?_
  have e1:pReadF f v 1=readF f v:=if_neg (by simpa using h14)
  rw[e1]
  exact fi_ (s,{o with bo:=o2}) ⟨hG,hR⟩
 ·have hr:readB f=true:=by simpa using h14
  refine pA_ 5 ?_
  refine Le (Cm_ (fvalue_g wb T x t (readF f v) {o with bo:=o2} hR (by show(f.bs++readL f v).length≤1000;have:=hB.b;have:=nowL_le v.D (f.old.line+f.pc);rw[List.length_append];unfold readL;omega) 1)) fun _ _=>pA_ 14 ?_
  refine Cd_ rfl (fun h21=>?_) fun h21=>?_
  ·have h21:¬fvK (readF f v).bs f.old 1=true:=(show ¬fvK (readF f v).bs (readF f v).old 1=true by simpa using h21)
   refine pA_ 3 ?_
   refine Le (Cm_ (ffail_g wb T x t ({readF f v with bs:=[]}) {o with bo:=none} 6)) fun _ _=>pA_ 4 ?_
   refine PQ.ret0 rfl ?_
   have e1:pReadF f v 1=failF {readF f v with bs:=[]} 6:=(if_pos hr).trans (if_neg h21)
   rw[e1]
   exact fi_ (s,{o with bo:=none}) ⟨hG,hZ.same rfl rfl rfl rfl rfl⟩
  ·have h21:fvK (readF f v).bs f.old 1=true:=(show fvK (readF f v).bs (readF f v).old 1=true by simpa using h21)
   refine pA_ 10 ?_
   refine LeN (sx_ (wkC x t ({readF f v with bs:=[],an:={f.an with fd:=true}}) ({o with bo:=none}))) fun _ _=>pA_ 3 ?_
   refine LeN (sx_ (wkC x t ({readF f v with bs:=[],an:={f.an with fd:=true,val:=(fvB (readF f v).bs).val}}) ({o with bo:=none}))) fun _ _=>Lv Nz<|Lv (Fa 5 3)<|LeN (sx_ (wkC x t ({readF f v with bs:=[],an:={f.an with fd:=true,val:=(fvB (readF f v).bs).val},ph:=6}) ({o with bo:=none}))) fun _ _=>Nl<|PQ.end0 rfl ?_
   have e1:pReadF f v 1={readF f v with bs:=[],an:={f.an with fd:=true,val:=(fvB (readF f v).bs).val},ph:=6}:=(if_pos hr).trans (if_pos h21)
   rw[e1]
   exact fi_ (s,{o with bo:=none}) ⟨hG,hZ.same rfl rfl rfl rfl rfl⟩
end
section
attribute [local irreducible] V.CW V.LW V.QW V.RW V.PQ V.Val V.Eff V.Qcall
open V (str byC ownV ownG ownS ownOk)
instance:Cal Tryz.prog 165:=⟨Tryz.call165⟩
instance:Cal Tryz.prog 167:=⟨Tryz.call167⟩
def fnX (a:AS)(f:Frm):Option Lk:=tNext a.Tz (bkF f.c.key:Nat) f.pos f.past
def fnY (a:AS)(f:Frm):Lk:=(fnX a f).getD lk0
def fnGo (a:AS)(f:Frm):Bool:=(fnX a f).isSome&&decide ((fnY a f).key<f.c.key)
def fnHad (a:AS)(f:Frm):Bool:=(fnX a f).isSome&&decide ((fnY a f).key=f.c.key)
def fnF (a:AS)(f:Frm):Frm:=if fnHad a f=true then {f with had:=true,old:=fnY a f} else {f with had:=false,old:=lk0}
def pFindB (f:Frm)(had:Bool):Bool:=decide (f.c.k≠1)&&(decide (f.c.k=3)&& !had)&&decide (0≤f.line)
def pFindA (a:AS)(f:Frm):AS:=if fnGo a f=true then a else if pFindB f (fnHad a f)=true then gbA a (fnF a f) else a
def pFindG (g:Frm)(had:Bool):Frm:=if g.c.k=1 then(if had=true then {g with ph:=2,pc:=0,bs:=[]} else {g with ph:=6}) else if g.c.k=3∧had=false then(if 0≤g.line then {gbF g with ph:=6} else {g with ph:=6}) else if g.line<0 then {g with ph:=3} else {g with ph:=5}
def pFindF (a:AS)(f:Frm):Frm:=if fnGo a f=true then {f with pos:=(fnY a f).key,past:=true} else pFindG (fnF a f) (fnHad a f)
theorem fnF_c (a:AS)(f:Frm):(fnF a f).c=f.c∧(fnF a f).line=f.line∧(fnF a f).had=fnHad a f:=by
 unfold fnF
 cases h:fnHad a f
 ·rw[if_neg (by decide)];exact⟨rfl,rfl,rfl⟩
 ·rw[if_pos rfl];exact⟨rfl,rfl,rfl⟩
theorem fnF_ok {f:Frm}{o:FrO}(h:FrOk f o)(a:AS):FrOk (fnF a f) o:=by
 unfold fnF
 split<;>exact h.same rfl rfl rfl rfl rfl
theorem pfind_g (wb:Nat)(T:TypeId)(x:ArR)(t:Int)(f:Frm)(o:FrO)(s:ArS)(xd:DvR)(v:Dev)(th n:Nat)(a:AS)(hG:ArG th n x s a)(hF:FrOk f o)(hB:FrB f)(hT:tInv a.Tz)(hTn:(tLinks a.Tz).length≤1000)(hTk:∀l∈tLinks a.Tz,l.key.length≤100000):Mo Tryz.prog 119 [.pointer (some ⟨wb,0,none⟩)] (wsS wb T x t f o s xd v) (fun z:ArS×FrO=>ArG th n x z.1 (pFindA a f)∧FrOk (pFindF a f) z.2) (fun _=> .tuple #[]) (fun z=>wsS wb T x t (pFindF a f) z.2 z.1 xd (v)):=by
 intro w hs
 have hTz:=hG.is.Tz
 have hk8:=hB.k
 refine Ca_ Tryz.func119 rfl Tryz.ntmps119 hs<|pA_ 9 ?_
 refine CW.regJoin (fun _:Nat=>True) (fun b3=>[(0,.pointer (some ⟨wb,0,none⟩)),(2,.pointer (some ⟨wb,2,none⟩)),(3,.pointer (some ⟨b3,0,none⟩)),(4,.bool (fnX a f).isSome)]) (fun b3=>[(b3,.cells (lkC (fnY a f)).toArray 108 (0,0))]::wsS wb T x t f o s xd v) ?_ ?_
 ·refine Dr ((wsS wb T x t f o s xd v))<|pR_ [0,1,2] ?_
  refine Rv 3 rfl (Ld (v:= .pointer (some ⟨x.a,0,none⟩)))<|pR_ [5,6,7,8] ?_
  refine Rv 9 rfl (Ld (v:=str f.c.key))<|pR_ [11,12,13] ?_
  refine Rv 14 rfl (Ld (v:=str f.pos))<|pR_ [15,16,17] ?_
  refine Rv 18 rfl (Ld (v:= .bool f.past))<|RW.any [4,23] kr_ (by simp) fun i hi=>?_
  simp only[List.mem_cons,List.not_mem_nil,or_false] at hi
  rcases hi with rfl|rfl
  ·refine Ro rfl (CV fun w hw=>atable_g x s w hw.at) fun _ _=>RW.any [10,23] kr_ (by simp) fun i hi=>?_
   simp only[List.mem_cons,List.not_mem_nil,or_false] at hi
   rcases hi with rfl|rfl
   ·refine Ro rfl (Cz_ (bucket_c f.c.key om_)) fun _ _=>RW.any [19,23] kr_ (by simp) fun i hi=>?_
    simp only[List.mem_cons,List.not_mem_nil,or_false] at hi
    rcases hi with rfl|rfl
    ·refine Ro rfl (Cr_ (tnext_g x.tb x.ms s.Tz hG.ok.tb (by rw[hTz];exact hT) (by rw[hTz];exact hTn) (by rw[hTz];exact hTk) (bkF f.c.key:Nat) f.pos f.past)) fun _ _=>RW.re 28 (.tuple #[.agg (lkC (fnY a f)).toArray,.bool (fnX a f).isSome]) rfl (by rw[hTz];rfl)<|pR_ [20,21,22] ?_
     refine Re 23 rfl AA fun b3 _=>ReN 24 rfl (StW (cs:=lkC (fnY a f))) fun _ _=>Rv 25 rfl Av<|Rd ?_
     refine PQ.joined (b3) (trivial) (by exact⟨rfl,rfl,rfl,rfl,trivial⟩) pk_
    ·refine Ro rfl AA fun b3 _=>Re 19 rfl (Cr_ (tnext_g x.tb x.ms s.Tz hG.ok.tb (by rw[hTz];exact hT) (by rw[hTz];exact hTn) (by rw[hTz];exact hTk) (bkF f.c.key:Nat) f.pos f.past)) fun _ _=>RW.re 28 (.tuple #[.agg (lkC (fnY a f)).toArray,.bool (fnX a f).isSome]) rfl (by rw[hTz];rfl)<|pR_ [20,21,22] ?_
     refine ReN 24 rfl (StW (cs:=lkC (fnY a f))) fun _ _=>Rv 25 rfl Av<|Rd ?_
     refine PQ.joined (b3) (trivial) (by exact⟨rfl,rfl,rfl,rfl,trivial⟩) pk_
   ·refine Ro rfl AA fun b3 _=>Re 10 rfl (Cz_ (bucket_c f.c.key om_)) fun _ _=>Re 19 rfl (Cr_ (tnext_g x.tb x.ms s.Tz hG.ok.tb (by rw[hTz];exact hT) (by rw[hTz];exact hTn) (by rw[hTz];exact hTk) (bkF f.c.key:Nat) f.pos f.past)) fun _ _=>RW.re 28 (.tuple #[.agg (lkC (fnY a f)).toArray,.bool (fnX a f).isSome]) rfl (by rw[hTz];rfl)<|pR_ [20,21,22] ?_
    refine ReN 24 rfl (StW (cs:=lkC (fnY a f))) fun _ _=>Rv 25 rfl Av<|Rd ?_
    refine PQ.joined (b3) (trivial) (by exact⟨rfl,rfl,rfl,rfl,trivial⟩) pk_
  ·refine Ro rfl AA fun b3 _=>Re 4 rfl (CV fun w hw=>atable_g x s w hw.at) fun _ _=>Re 10 rfl (Cz_ (bucket_c f.c.key om_)) fun _ _=>Re 19 rfl (Cr_ (tnext_g x.tb x.ms s.Tz hG.ok.tb (by rw[hTz];exact hT) (by rw[hTz];exact hTn) (by rw[hTz];exact hTk) (bkF f.c.key:Nat) f.pos f.past)) fun _ _=>RW.re 28 (.tuple #[.agg (lkC (fnY a f)).toArray,.bool (fnX a f).isSome]) rfl (by rw[hTz];rfl)<|pR_ [20,21,22] ?_
   refine ReN 24 rfl (StW (cs:=lkC (fnY a f))) fun _ _=>Rv 25 rfl Av<|Rd ?_
   refine PQ.joined (b3) (trivial) (by exact⟨rfl,rfl,rfl,rfl,trivial⟩) pk_
 ·intro b3 _
  refine Ps<|Sq ?_
  refine CW.join (fun _:Unit=>fnGo a f=false) (fun _=>[(0,.pointer (some ⟨wb,0,none⟩)),(2,.pointer (some ⟨wb,2,none⟩)),(3,.pointer (some ⟨b3,0,none⟩)),(4,.bool (fnX a f).isSome)]) (fun _=>[(b3,.cells (lkC (fnY a f)).toArray 108 (0,0))]::wsS wb T x t f o s xd v) ?_ ?_
  ·refine Sq ?_
   refine CW.regJoin (fun _:Unit=>True) (fun _=>[(0,.pointer (some ⟨wb,0,none⟩)),(2,.pointer (some ⟨wb,2,none⟩)),(3,.pointer (some ⟨b3,0,none⟩)),(4,.bool (fnX a f).isSome),(41,.bool (fnGo a f))]) (fun _=>[(b3,.cells (lkC (fnY a f)).toArray 108 (0,0))]::wsS wb T x t f o s xd v) ?_ ?_
   ·refine Qt<|Qv Mv<|Qv Mv ?_
    refine QW.split (d:=32) rfl (fun h32=>?_) (fun h32=>?_)
    ·replace h32:=bT h32
     have h32:(fnX a f).isSome=true:=h32
     refine Qv (Fa 0 9)<|Qv (Ld (v:=str (fnY a f).key))<|pA_ 4 ?_
     refine Qv (Ld (v:=str f.c.key))<|Qv (Val.ltStr rfl rfl)<|Qv Pt<|Ql ?_
     refine PQ.joined (()) (trivial) (by exact⟨rfl,rfl,rfl,rfl,congrArg (fun b=>some (Value.bool b)) (by unfold fnGo;rw[h32];rfl),trivial⟩) pk_
    ·replace h32:=bF h32
     have h32:(fnX a f).isSome=false:=h32
     refine pA_ 10 ?_
     refine PQ.joined (()) (trivial) (by exact⟨rfl,rfl,rfl,rfl,congrArg (fun b=>some (Value.bool b)) (by unfold fnGo;rw[h32];rfl),trivial⟩) pk_
   ·intro _ _
    refine Ps ?_
    refine Cd_ rfl (fun h41=>?_) fun h41=>?_
    ·have h41:fnGo a f=true:=h41
     refine pA_ 5 ?_
     refine Lv (Ld (v:=str (fnY a f).key))<|Lv Nz<|Lv (Fa 7 9)<|LeN (sx_ (wkC x t ({f with pos:=(fnY a f).key}) (o))) fun _ _=>Lv Nz<|Lv (Fa 8 4)<|LeN (sx_ (wkC x t ({f with pos:=(fnY a f).key,past:=true}) (o))) fun _ _=>pA_ 4 ?_
     refine PQ.ret0 rfl ?_
     have e1:pFindF a f={f with pos:=(fnY a f).key,past:=true}:=if_pos h41
     have e2:pFindA a f=a:=if_pos h41
     rw[e1,e2]
     exact fi_ (s,o) ⟨hG,hF.same rfl rfl rfl rfl rfl⟩
    ·have h41:fnGo a f=false:=h41
     refine Sk ?_
     exact joinC (()) (h41)
  ·intro _ hgo
   refine pA_ 5 ?_
   refine Lv (Bd [_,_,_,_,_])<|Lv Nz<|Lv (Fa 10 4)<|LeN (sx_ (wkC x t ({f with had:=false}) (o))) fun _ _=>Lv Nz<|Lv (Fa 11 108)<|LeN (Eff.storeA (cs:=lkC lk0) (l:=wkC x t ({f with had:=false}) o) (l':=wkC x t ({f with had:=false,old:=lk0}) o) rfl rfl up_ (by rfl) (by simp[wkC,frC,klC,anC,lkC]) Tryz.sizeOf108 (by simp only[lkC,List.all_cons,List.all_nil,oneS,oneI,Bool.and_true])) fun _ _=>pA_ 3 ?_
   refine CW.join (fun g:Frm=>g=fnF a f) (fun _=>[(0,.pointer (some ⟨wb,0,none⟩)),(2,.pointer (some ⟨wb,2,none⟩))]) (fun g=>wsS wb T x t g o s xd v) ?_ ?_
   ·refine Sq ?_
    refine CW.regJoin (fun _:Unit=>True) (fun _=>[(0,.pointer (some ⟨wb,0,none⟩)),(2,.pointer (some ⟨wb,2,none⟩)),(3,.pointer (some ⟨b3,0,none⟩)),(67,.bool (fnHad a f))]) (fun _=>[(b3,.cells (lkC (fnY a f)).toArray 108 (0,0))]::wsS wb T x t ({f with had:=false,old:=lk0}) o s xd v) ?_ ?_
    ·refine Qt<|Qv Mv<|Qv Mv ?_
     refine QW.split (d:=58) rfl (fun h58=>?_) (fun h58=>?_)
     ·replace h58:=bT h58
      have h58:(fnX a f).isSome=true:=h58
      refine Qv (Fa 0 9)<|Qv (Ld (v:=str (fnY a f).key))<|pA_ 4 ?_
      refine Qv (Ld (v:=str f.c.key))<|Qv ES<|Qv Pt<|Ql ?_
      refine PQ.joined (()) (trivial) (by exact⟨rfl,rfl,rfl,congrArg (fun b=>some (Value.bool b)) (by unfold fnHad;rw[h58];rfl),trivial⟩) pk_
     ·replace h58:=bF h58
      have h58:(fnX a f).isSome=false:=h58
      refine pA_ 10 ?_
      refine PQ.joined (()) (trivial) (by exact⟨rfl,rfl,rfl,congrArg (fun b=>some (Value.bool b)) (by unfold fnHad;rw[h58];rfl),trivial⟩) pk_
    ·intro _ _
     refine Ps ?_
     refine Cd_ rfl (fun h67=>?_) fun h67=>?_
     ·have h67:fnHad a f=true:=h67
      refine Dr ([[(b3,.cells (lkC (fnY a f)).toArray 108 (0,0))]])<|pR_ [0,1] ?_
      refine Rv 2 rfl (Lw (l:=lkC (fnY a f)))<|pR_ [3,4] ?_
      refine ReN 5 rfl (sx_ (wkC x t ({f with had:=true,old:=lk0}) (o))) fun _ _=>pR_ [6,7] ?_
      refine ReN 8 rfl (Eff.storeA (cs:=lkC (fnY a f)) (l:=wkC x t ({f with had:=true,old:=lk0}) o) (l':=wkC x t ({f with had:=true,old:=fnY a f}) o) rfl rfl up_ (by rfl) (by simp[wkC,frC,klC,anC,lkC]) Tryz.sizeOf108 (by simp only[lkC,List.all_cons,List.all_nil,oneS,oneI,Bool.and_true])) fun _ _=>Rd ?_
      exact joinC ({f with had:=true,old:=fnY a f}) ((if_pos h67).symm)
     ·have h67:fnHad a f=false:=h67
      refine Sk ?_
      exact joinC ({f with had:=false,old:=lk0}) ((if_neg (by rw[h67];decide)).symm)
   ·intro g hg
    have hgc:g.c=f.c:=by rw[hg];exact(fnF_c a f).1
    have hgl:g.line=f.line:=by rw[hg];exact(fnF_c a f).2.1
    have hgh:g.had=fnHad a f:=by rw[hg];exact(fnF_c a f).2.2
    have hgF:FrOk g o:=by rw[hg];exact fnF_ok hF a
    refine pA_ 8 ?_
    refine Lv (Ld (v:= .int .i64 g.c.k))<|LW.re 83 (.int .i64 f.c.k) rfl (by rw[hgc])<|Lv Cm<|Lv Mv ?_
    refine LW.split (d:=85) rfl (fun h85=>?_) (fun h85=>?_)
    ·replace h85:=bT h85
     have h85:f.c.k=1:=h85
     refine pA_ 3 ?_
     refine Lv (Ld (v:= .bool g.had))<|LW.re 89 (.bool (fnHad a f)) rfl (by rw[hgh])<|pA_ 4 ?_
     refine Cd_ rfl (fun h78=>?_) fun h78=>?_
     ·have h78:fnHad a f=true:=h78
      refine pA_ 6 ?_
      refine LeN (sx_ (wkC x t ({g with ph:=2}) (o))) fun _ _=>Lv Nz<|Lv (Fa 18 3)<|LeN (sx_ (wkC x t ({g with ph:=2,pc:=0}) (o))) fun _ _=>Lv Nz<|Lv (Fa 19 133)<|LeN (sx_ (wkC x t ({g with ph:=2,pc:=0,bs:=[]}) ({o with bo:=none}))) fun _ _=>Nl<|Bn<|PQ.end0 rfl ?_
      have e0:pFindF a f=pFindG g (fnHad a f):=by rw[hg];exact if_neg (by rw[hgo];decide)
      have e1:pFindG g (fnHad a f)={g with ph:=2,pc:=0,bs:=[]}:=(if_pos (by rw[hgc];exact h85)).trans (if_pos h78)
      have e2:pFindA a f=a:=(if_neg (by rw[hgo];decide)).trans (if_neg (by unfold pFindB;simp[h85]))
      rw[e0,e1,e2]
      intro w' hw;exact⟨(s,{o with bo:=none}),⟨hG,⟨hgF.gz,hgF.go,⟨rfl,rfl⟩,hgF.po,hgF.so,hgF.ho⟩⟩,rfl,(hw.pick (ss:=[(wb,.cells (wkC x t {g with ph:=2,pc:=0,bs:=[]} {o with bo:=none}).toArray T (0,0))]::ownG 79 (o.gz.flatMap kzC) o.go::ownG 237 (g.pa.flatMap ptC) o.po::(anS g.an o.so o.ho++(arS x s xd.db++vS xd v))) pk_).perm (.refl _)⟩
     ·have h78:fnHad a f=false:=h78
      refine pA_ 6 ?_
      refine Lv (Ld (v:= .int .i64 g.c.k))<|LW.re 105 (.int .i64 f.c.k) rfl (by rw[hgc])<|pA_ 4 ?_
      refine CW.cond rfl (fun h100=>?_) (fun h100=>?_)
      ·replace h100:=bT h100
       refine pA_ 4 ?_
       refine LeN (sx_ (wkC x t ({g with ph:=6}) (o))) fun _ _=>Nl<|Bn<|PQ.end0 rfl ?_
       have e0:pFindF a f=pFindG g (fnHad a f):=by rw[hg];exact if_neg (by rw[hgo];decide)
       have e1:pFindG g (fnHad a f)={g with ph:=6}:=(if_pos (by rw[hgc];exact h85)).trans (if_neg (by rw[h78];decide))
       have e2:pFindA a f=a:=(if_neg (by rw[hgo];decide)).trans (if_neg (by unfold pFindB;simp[h85]))
       rw[e0,e1,e2]
       exact fi_ (s,o) ⟨hG,hgF.same rfl rfl rfl rfl rfl⟩
      ·exact absurd h85 (by simpa using h100)
    ·replace h85:=bF h85
     have h85:¬f.c.k=1:=h85
     refine pA_ 15 ?_
     refine Lv (Ld (v:= .int .i64 g.c.k))<|LW.re 105 (.int .i64 f.c.k) rfl (by rw[hgc])<|pA_ 4 ?_
     refine CW.cond rfl (fun h100=>?_) (fun h100=>?_)
     ·exact absurd (show f.c.k=1 by simpa using h100) h85
     ·replace h100:=bF h100
      refine pA_ 6 ?_
      refine Lv (Ld (v:= .int .i64 g.c.k))<|LW.re 115 (.int .i64 f.c.k) rfl (by rw[hgc])<|Lv Cm<|Lv Mv ?_
      refine LW.split (d:=117) rfl (fun h117=>?_) (fun h117=>?_)
      ·replace h117:=bT h117
       have h117:f.c.k=3:=h117
       refine pA_ 3 ?_
       refine Lv (Ld (v:= .bool g.had))<|LW.re 121 (.bool (fnHad a f)) rfl (by rw[hgh])<|pA_ 5 ?_
       refine Cd_ rfl (fun h110=>?_) fun h110=>?_
       ·have h110:fnHad a f=false:=by simpa using h110
        refine pA_ 6 ?_
        refine Lv (Ld (v:= .int .i64 g.line))<|LW.re 127 (.int .i64 f.line) rfl (by rw[hgl])<|pA_ 3 ?_
        refine Cd_ rfl (fun h128=>?_) fun h128=>?_
        ·have h128:0≤f.line:=h128
         refine pA_ 4 ?_
         refine Lv (Ld (v:= .pointer (some ⟨x.a,0,none⟩)))<|Lv Mv<|Le (Cm_ (fgive_g wb T x t g o s xd v th n a hG hgF)) fun s2 hG2=>pA_ 6 ?_
         refine LeN (sx_ (wkC x t ({gbF g with ph:=6}) (o))) fun _ _=>Nl<|Bn<|PQ.end0 rfl ?_
         have e0:pFindF a f=pFindG g (fnHad a f):=by rw[hg];exact if_neg (by rw[hgo];decide)
         have e1:pFindG g (fnHad a f)={gbF g with ph:=6}:=(if_neg (by rw[hgc];exact h85)).trans ((if_pos ⟨by rw[hgc];exact h117,h110⟩).trans (if_pos (by rw[hgl];exact h128)))
         have e2:pFindA a f=gbA a g:=(if_neg (by rw[hgo];decide)).trans ((if_pos (by unfold pFindB;simp[h117,h110,h128])).trans (by rw[hg]))
         rw[e0,e1,e2]
         exact fi_ (s2,o) ⟨hG2,hgF.same rfl rfl rfl rfl rfl⟩
        ·have h128:¬0≤f.line:=by omega
         refine pA_ 6 ?_
         refine LeN (sx_ (wkC x t ({g with ph:=6}) (o))) fun _ _=>Nl<|Bn<|PQ.end0 rfl ?_
         have e0:pFindF a f=pFindG g (fnHad a f):=by rw[hg];exact if_neg (by rw[hgo];decide)
         have e1:pFindG g (fnHad a f)={g with ph:=6}:=(if_neg (by rw[hgc];exact h85)).trans ((if_pos ⟨by rw[hgc];exact h117,h110⟩).trans (if_neg (by rw[hgl];exact h128)))
         have e2:pFindA a f=a:=(if_neg (by rw[hgo];decide)).trans (if_neg (by unfold pFindB;simp[h128]))
         rw[e0,e1,e2]
         exact fi_ (s,o) ⟨hG,hgF.same rfl rfl rfl rfl rfl⟩
       ·have h110:fnHad a f=true:=by simpa using h110
        refine pA_ 5 ?_
        refine Lv (Ld (v:= .int .i64 g.line))<|LW.re 142 (.int .i64 f.line) rfl (by rw[hgl])<|pA_ 4 ?_
        refine Cd_ rfl (fun h138=>?_) fun h138=>?_
        ·have h138:f.line<0:=h138
         refine pA_ 4 ?_
         refine LeN (sx_ (wkC x t ({g with ph:=3}) (o))) fun _ _=>Nl<|Bn<|PQ.end0 rfl ?_
         have e0:pFindF a f=pFindG g (fnHad a f):=by rw[hg];exact if_neg (by rw[hgo];decide)
         have e1:pFindG g (fnHad a f)={g with ph:=3}:=(if_neg (by rw[hgc];exact h85)).trans ((if_neg (by rintro⟨h8,h9⟩;rw[hgc] at h8;first|exact absurd h8 h117|(rw[h110] at h9;cases h9))).trans (if_pos (by rw[hgl];exact h138)))
         have e2:pFindA a f=a:=(if_neg (by rw[hgo];decide)).trans (if_neg (by unfold pFindB;first|(simp[h117];done)|(simp[h110];done)))
         rw[e0,e1,e2]
         exact fi_ (s,o) ⟨hG,hgF.same rfl rfl rfl rfl rfl⟩
        ·have h138:¬f.line<0:=by omega
         refine pA_ 4 ?_
         refine LeN (sx_ (wkC x t ({g with ph:=5}) (o))) fun _ _=>Nl<|Bn<|PQ.end0 rfl ?_
         have e0:pFindF a f=pFindG g (fnHad a f):=by rw[hg];exact if_neg (by rw[hgo];decide)
         have e1:pFindG g (fnHad a f)={g with ph:=5}:=(if_neg (by rw[hgc];exact h85)).trans ((if_neg (by rintro⟨h8,h9⟩;rw[hgc] at h8;first|exact absurd h8 h117|(rw[h110] at h9;cases h9))).trans (if_neg (by rw[hgl];omega)))
         have e2:pFindA a f=a:=(if_neg (by rw[hgo];decide)).trans (if_neg (by unfold pFindB;first|(simp[h117];done)|(simp[h110];done)))
         rw[e0,e1,e2]
         exact fi_ (s,o) ⟨hG,hgF.same rfl rfl rfl rfl rfl⟩
      ·replace h117:=bF h117
       have h117:¬f.c.k=3:=h117
       refine pA_ 15 ?_
       refine Lv (Ld (v:= .int .i64 g.line))<|LW.re 142 (.int .i64 f.line) rfl (by rw[hgl])<|pA_ 4 ?_
       refine Cd_ rfl (fun h138=>?_) fun h138=>?_
       ·have h138:f.line<0:=h138
        refine pA_ 4 ?_
        refine LeN (sx_ (wkC x t ({g with ph:=3}) (o))) fun _ _=>Nl<|Bn<|PQ.end0 rfl ?_
        have e0:pFindF a f=pFindG g (fnHad a f):=by rw[hg];exact if_neg (by rw[hgo];decide)
        have e1:pFindG g (fnHad a f)={g with ph:=3}:=(if_neg (by rw[hgc];exact h85)).trans ((if_neg (by rintro⟨h8,h9⟩;rw[hgc] at h8;first|exact absurd h8 h117|(rw[h110] at h9;cases h9))).trans (if_pos (by rw[hgl];exact h138)))
        have e2:pFindA a f=a:=(if_neg (by rw[hgo];decide)).trans (if_neg (by unfold pFindB;first|(simp[h117];done)|(simp[h110];done)))
        rw[e0,e1,e2]
        exact fi_ (s,o) ⟨hG,hgF.same rfl rfl rfl rfl rfl⟩
       ·have h138:¬f.line<0:=by omega
        refine pA_ 4 ?_
        refine LeN (sx_ (wkC x t ({g with ph:=5}) (o))) fun _ _=>Nl<|Bn<|PQ.end0 rfl ?_
        have e0:pFindF a f=pFindG g (fnHad a f):=by rw[hg];exact if_neg (by rw[hgo];decide)
        have e1:pFindG g (fnHad a f)={g with ph:=5}:=(if_neg (by rw[hgc];exact h85)).trans ((if_neg (by rintro⟨h8,h9⟩;rw[hgc] at h8;first|exact absurd h8 h117|(rw[h110] at h9;cases h9))).trans (if_neg (by rw[hgl];omega)))
        have e2:pFindA a f=a:=(if_neg (by rw[hgo];decide)).trans (if_neg (by unfold pFindB;first|(simp[h117];done)|(simp[h110];done)))
        rw[e0,e1,e2]
        exact fi_ (s,o) ⟨hG,hgF.same rfl rfl rfl rfl rfl⟩
end
section
attribute [local irreducible] V.CW V.LW V.QW V.RW V.PQ V.Val V.Eff V.Qcall
open V (str byC ownV ownG ownS ownOk)
theorem places285:∀w,((Array.mapM (fun(f:Field)=>do pure (f.offset,← sizeOf f.type)) (Tryz.prog.fieldsOf 285):Sem (Array (Nat×Nat)))).run Tryz.prog w= .ok [(0,1),(1,1),(2,1),(3,1),(4,5),(9,1),(10,1)].toArray w:=by
 intro w;kernel_rfl
instance:Plc Tryz.prog 285 (fOf Tryz.underlying285) (lOf (P:=Tryz.prog) places285):=⟨places285,Tryz.underlying285⟩
instance:Cal Tryz.prog 174:=⟨Tryz.call174⟩
def pCh (f:Frm):Chg:=⟨f.c.k,f.c.key,f.c.val,f.had,f.old,f.line,f.cls⟩
def pPubE (a:AS)(t:Int)(f:Frm):Int:=pubE a t f.ep [pCh f]
def pPubA (a:AS)(v:Dev)(t:Int)(f:Frm):AS×Dev:=if pPubE a t f=0 then pubA t f.ep a v [pCh f] else if pPubE a t f=8 then(a,v) else(gbA a f,v)
def pPubF (a:AS)(t:Int)(f:Frm):Frm:=if pPubE a t f=0 then {f with an:={f.an with fd:=chOut (pCh f),ep:=f.ep},line:= -1,ph:=6} else if pPubE a t f=8 then {f with ep:=a.ck.now,pos:=[],past:=false,had:=false,old:=lk0,ph:=1} else failF (gbF f) (pPubE a t f)
theorem pubA_no {a:AS}{t e:Int}{v:Dev}{l:List Chg}(h:¬pubE a t e l=0):pubA t e a v l=(a,v):=if_neg h
theorem own_hit {b:Bool}{o:V.OwnO}(h:ownOk 1 1 ([b].flatMap boC) o):∃g rest c,o=some (g,rest,c):=by
 rcases o with _|⟨g,rest,c⟩
 ·exact absurd (show(1:Nat)=0 from h.2) (by decide)
 ·exact⟨g,rest,c,rfl⟩
theorem ppub_g (wb:Nat)(T:TypeId)(x:ArR)(t:Int)(f:Frm)(o:FrO)(s:ArS)(xd:DvR)(v:Dev)(th n:Nat)(a:AS)(hG:ArG th n x s a)(hF:FrOk f o)(hB:FrB f)(m n0:Nat)(hin:a.In th n m n0)(hids:a.Ids)(hm:m≤890)(hn0:n0≤80000)(hth:1≤th∧th≤4)(he:0≤f.ep∧f.ep≤4611686018427387904):Mo Tryz.prog 123 [.pointer (some ⟨wb,0,none⟩)] (wsS wb T x t f o s xd v) (fun z:ArS×FrO=>ArG th n x z.1 ((pPubA a v t f).1)∧FrOk (pPubF a t f) z.2) (fun _=> .tuple #[]) (fun z=>wsS wb T x t (pPubF a t f) z.2 z.1 xd ((pPubA a v t f).2)):=by
 intro w hs
 refine Ca_ Tryz.func123 rfl Tryz.ntmps123 hs<|Sq<|Rg<|Lv Mv<|Lv Nz<|Lv (Fa 2 159)<|Lv Av<|Nl<|Ps<|Sq<|Dr ([[(wb,.cells (wkC x t (f) (o)).toArray T (0,0))]])<|Rv 0 rfl Mv<|Rv 1 rfl Nz<|Rv 2 rfl (Fa 0 25)<|Rv 3 rfl (Ld (v:= .pointer (some ⟨x.a,0,none⟩)))<|Rv 4 rfl Mv<|Rv 5 rfl Nz<|Rv 6 rfl (Fa 1 3)<|Rv 7 rfl (Ld (v:= .int .i64 t))<|Rv 8 rfl Mv<|Rv 9 rfl Nz<|Rv 10 rfl (Fa 6 48)<|Rv 11 rfl (Ld (v:= .int .u64 f.ep))<|Rv 12 rfl Mv<|Rv 13 rfl Nz<|Rv 14 rfl (Fa 0 79)<|Rv 15 rfl (Fa 0 3)<|Rv 16 rfl (Ld (v:= .int .i64 f.c.k))<|Rv 17 rfl Mv<|Rv 18 rfl Nz<|Rv 19 rfl (Fa 0 79)<|Rv 20 rfl (Fa 1 9)<|Rv 21 rfl (Ld (v:=str f.c.key))<|Rv 22 rfl Mv<|Rv 23 rfl Nz<|Rv 24 rfl (Fa 0 79)<|Rv 25 rfl (Fa 2 9)<|Rv 26 rfl (Ld (v:=str f.c.val))<|Rv 27 rfl Mv<|Rv 28 rfl Nz<|Rv 29 rfl (Fa 10 4)<|Rv 30 rfl (Ld (v:= .bool f.had))<|Rv 31 rfl Mv<|Rv 32 rfl Nz<|Rv 33 rfl (Fa 11 108)<|Rv 34 rfl (La (lkC f.old) (hl:=rfl))<|Rv 35 rfl Mv<|Rv 36 rfl Nz<|Rv 37 rfl (Fa 16 3)<|Rv 38 rfl (Ld (v:= .int .i64 f.line))<|Rv 39 rfl Mv<|Rv 40 rfl Nz<|Rv 41 rfl (Fa 17 3)<|Rv 42 rfl (Ld (v:= .int .i64 f.cls))<|Rv 43 rfl (Bd (chC (pCh f)))<|Re 44 rfl (Eff.buildSlice (rfl) [_,_,_,_,_,_,_,_,_,_,_] Tryz.underlying286 Tryz.sizeOf285 (by exact Tryz.zeroValue285) rfl rfl rfl rfl (by rfl)) fun b53 _=>Re 45 rfl (CM ((arS x s xd.db++vS xd v)) fun w hw hs0=>publish_g x s th n m n0 a xd v hG.ok hG.is hin hids hm hn0 hth hG.R t f.ep he [pCh f] (some ⟨b53,0,none⟩) 1 (by simp) (by intro y hy;simp at hy;subst hy;have:=hB.k;exact⟨this.1,by show f.c.val.length≤100000;omega⟩) w hs0 (V.slAt_flat (l:=[pCh f]) (enc:=chC) (r:=[]) hw chC_len (by simp) (show InS (b53,.cells (chC (pCh f)).toArray 285 (0,0)) _ from in_)) (fun b q hb=>by simp only[Option.some.injEq,Addr.mk.injEq] at hb;obtain⟨rfl,_⟩:=hb;exact not_in hw (show Pick (arS x s xd.db++vS xd v) _ _ from pk_) (show InS (b53,.cells (chC (pCh f)).toArray 285 (0,0)) _ from in_))) ?_
 rintro⟨s2,ho⟩ ⟨hz1,hz2,hz3,hz4⟩
 simp only at hz1 hz2 hz3 hz4⊢
 rw[show pubE a t f.ep [pCh f]=pPubE a t f from rfl] at hz4⊢
 refine pR_ [46,47,48] ?_
 refine RW.re 56 (.int .i64 (pPubE a t f)) rfl rfl<|pR_ [49,50] ?_
 refine pA_ 14 ?_
 refine Cd_ rfl (fun h67=>?_) fun h67=>?_
 ·have h67:pPubE a t f=0:=h67
  rw[if_pos h67,if_pos h67] at hz4⊢
  have hG2:ArG th n x s2 (pubA t f.ep a v [pCh f]).1:=⟨hz1,hz2,by have:=hG.R;omega⟩
  obtain⟨hg,hrest,hcap,rfl⟩:=own_hit (b:=chOut (pCh f)) hz4
  refine Dr ([[(hg,.cells ((.bool (chOut (pCh f)):Value)::hrest).toArray 4 (0,0))]])<|pR_ [0,1,2,3,4] ?_
  refine Rv 5 rfl (Val.indexAddrN (i:=0) rfl rfl Tryz.underlying81 Tryz.sizeOf4 (by simp[hitsF]))<|Rv 6 rfl (Ld (v:= .bool (chOut (pCh f))) (hl:=rfl))<|pR_ [7,8,9] ?_
  refine Re 10 rfl (Eff.ofVal (Ld (v:= .int .u64 f.ep))) fun _ _=>pR_ [11,12,13] ?_
  refine ReN 14 rfl (sx_ (wkC x t ({f with an:={f.an with fd:=chOut (pCh f)}}) (o))) fun _ _=>pR_ [15,16,17] ?_
  refine ReN 18 rfl (sx_ (wkC x t ({f with an:={f.an with fd:=chOut (pCh f),ep:=f.ep}}) (o))) fun _ _=>pR_ [19,20] ?_
  refine ReN 21 rfl (sx_ (wkC x t ({f with an:={f.an with fd:=chOut (pCh f),ep:=f.ep},line:= -1}) (o))) fun _ _=>pR_ [22,23] ?_
  refine ReN 24 rfl (sx_ (wkC x t ({f with an:={f.an with fd:=chOut (pCh f),ep:=f.ep},line:= -1,ph:=6}) (o))) ?_
  intro _ _
  refine Rd<|Bn<|PQ.end0 rfl ?_
  have e1:pPubF a t f={f with an:={f.an with fd:=chOut (pCh f),ep:=f.ep},line:= -1,ph:=6}:=if_pos h67
  have e2:pPubA a v t f=pubA t f.ep a v [pCh f]:=if_pos h67
  rw[e1,e2]
  exact fi_ (s2,o) ⟨hG2,hF.same rfl rfl rfl rfl rfl⟩
 ·have h67:¬pPubE a t f=0:=h67
  rw[if_neg h67,if_neg h67] at hz4⊢
  have hG3:ArG th n x s2 a:=⟨hz1,by rw[pubA_no h67] at hz2;exact hz2,by have:=hG.R;omega⟩
  rw[pubA_no h67] at hz2⊢
  refine pA_ 6 ?_
  refine Cd_ rfl (fun h90=>?_) fun h90=>?_
  ·have h90:pPubE a t f=8:=h90
   refine pA_ 6 ?_
   refine Lv (Ld (v:= .pointer (some ⟨x.a,0,none⟩)))<|Le (CV fun w hw=>aclock_g x s2 w hw.at) fun _ _=>Le (CV fun w hw=>know_g x.cb x.wb a.ck w (by have h8:=hw.sat.pick (ss:=ckS x.cb x.wb s2.ck) pk_;rw[hz2.ck] at h8;exact h8)) fun _ _=>Lv Nz<|Lv (Fa 6 48)<|LeN (sx_ (wkC x t ({f with ep:=a.ck.now}) (o))) fun _ _=>pA_ 8 ?_
   refine Lv (Bd [_,_,_,_,_])<|Lv Nz<|Lv (Fa 7 9)<|LeN (sx_ (wkC x t ({f with ep:=a.ck.now,pos:=[]}) (o))) fun _ _=>Lv Nz<|Lv (Fa 8 4)<|LeN (sx_ (wkC x t ({f with ep:=a.ck.now,pos:=[],past:=false}) (o))) fun _ _=>Lv Nz<|Lv (Fa 10 4)<|LeN (sx_ (wkC x t ({f with ep:=a.ck.now,pos:=[],past:=false,had:=false}) (o))) ?_
   intro _ _
   refine Lv Nz<|Lv (Fa 11 108)<|LeN (Eff.storeA (cs:=lkC lk0) (l:=wkC x t ({f with ep:=a.ck.now,pos:=[],past:=false,had:=false}) o) (l':=wkC x t ({f with ep:=a.ck.now,pos:=[],past:=false,had:=false,old:=lk0}) o) rfl rfl up_ (by rfl) (by simp[wkC,frC,klC,anC,lkC]) Tryz.sizeOf108 (by simp only[lkC,List.all_cons,List.all_nil,oneS,oneI,Bool.and_true])) fun _ _=>Lv Nz<|Lv (Fa 5 3)<|LeN (sx_ (wkC x t ({f with ep:=a.ck.now,pos:=[],past:=false,had:=false,old:=lk0,ph:=1}) (o))) fun _ _=>Nl<|Bn<|PQ.end0 rfl ?_
   have e1:pPubF a t f={f with ep:=a.ck.now,pos:=[],past:=false,had:=false,old:=lk0,ph:=1}:=(if_neg h67).trans (if_pos h90)
   have e2:pPubA a v t f=(a,v):=(if_neg h67).trans (if_pos h90)
   rw[e1,e2]
   exact fi_ (s2,o) ⟨hG3,hF.same rfl rfl rfl rfl rfl⟩
  ·have h90:¬pPubE a t f=8:=h90
   refine pA_ 5 ?_
   refine Lv (Ld (v:= .pointer (some ⟨x.a,0,none⟩)))<|Lv Mv<|Le (Cm_ (fgive_g wb T x t f o s2 xd v th n a hG3 hF)) fun s4 hG4=>pA_ 5 ?_
   refine Le (Cm_ (ffail_g wb T x t (gbF f) o (pPubE a t f))) fun _ _=>Nl<|Bn<|PQ.end0 rfl ?_
   have e1:pPubF a t f=failF (gbF f) (pPubE a t f):=(if_neg h67).trans (if_neg h90)
   have e2:pPubA a v t f=(gbA a f,v):=(if_neg h67).trans (if_neg h90)
   rw[e1,e2]
   exact fi_ (s4,o) ⟨hG4,hF.same rfl rfl rfl rfl rfl⟩
end
end G
end Go.Proofs.YtjidffamcdcecaaGreat
namespace Go.Proofs.YtjidffamcdcecaaGreat
open Go Go.RowKit V
set_option linter.unusedVariables false
set_option maxRecDepth 100000
set_option maxHeartbeats 400000
namespace G
section
attribute [local irreducible] V.CW V.LW V.QW V.RW V.PQ V.Val V.Eff V.Qcall
open V (str byC ownV ownG ownS ownOk)
theorem places209:∀w,((Array.mapM (fun(f:Field)=>do pure (f.offset,← sizeOf f.type)) (Tryz.prog.fieldsOf 209):Sem (Array (Nat×Nat)))).run Tryz.prog w= .ok [(0,1),(1,1),(2,28)].toArray w:=by
 intro w;kernel_rfl
instance:AgF Tryz.prog 210:=⟨Tryz.isAgg210⟩
instance:Siz Tryz.prog 211 (kOf Tryz.sizeOf211):=⟨Tryz.sizeOf211⟩
instance:Zer Tryz.prog 211 (zOf Tryz.zeroValue211):=⟨Tryz.zeroValue211⟩
instance:Plc Tryz.prog 209 (fOf Tryz.underlying209) (lOf (P:=Tryz.prog) places209):=⟨places209,Tryz.underlying209⟩
instance:Cal Tryz.prog 87:=⟨Tryz.call87⟩
instance:Cal Tryz.prog 88:=⟨Tryz.call88⟩
structure StH (th n m n0:Nat)(a:AS)(f:Frm):Prop where
 inn:a.In th n m n0
 ids:a.Ids
 m:m≤890
 n0:n0≤80000
 th:1≤th∧th≤4
 ep:0≤f.ep∧f.ep≤4611686018427387904
 ks:∀l∈tLinks a.Tz,l.key.length≤100000
 B:FrB f
 sz:FrSz f
def pStep (k:Nat)(a:AS)(v:Dev)(t:Int)(f:Frm):AS×Dev×Frm:=match k with
 |0=>(enterA a t f,v,pEnterF a t f)
 |1=>(pFindA a f,v,pFindF a f)
 |2=>(a,v,pReadF f v 1)
 |3=>(takeA a (sizeK f.c),v,pTakeF a f)
 |4=>(a,pWriteV v f,pWriteF f)
 |5=>((pPubA a v t f).1,(pPubA a v t f).2,pPubF a t f)
 |_=>(leaveA a t,v,leaveF f)
def pBad (f:Frm):Bool:=decide (f.c.k<1)||decide (3<f.c.k)||decide (f.ph<0)||decide (7≤f.ph)
def pointA (a:AS)(v:Dev)(t:Int)(f:Frm):AS×Dev×Frm:=if pBad f=true then(a,v,f) else pStep f.ph.toNat a v t f
def phP:Nat→Nat
 |0=>118
 |1=>119
 |2=>120
 |3=>121
 |4=>122
 |5=>123
 |_=>124
def phV:List Value:=(List.range 7).map fun k=> .func (.func (phP k)) #[] #[]
theorem phV_at {k:Nat}(h:k<7):phV[0+k*1]? =some (.func (.func (phP k)) #[] #[]):=by
 rcases k with _|_|_|_|_|_|_|k<;>first|rfl|omega
theorem call_ph (k:Nat)(args:Array Value)(w:World):(callFunc (phP k) args).run Tryz.prog w= .ok (.enter (phP k) args) w:=by
 rcases k with _|_|_|_|_|_|k
 ·exact Tryz.call118 args w
 ·exact Tryz.call119 args w
 ·exact Tryz.call120 args w
 ·exact Tryz.call121 args w
 ·exact Tryz.call122 args w
 ·exact Tryz.call123 args w
 ·exact Tryz.call124 args w
theorem pwork_g (k:Nat)(wb:Nat)(T:TypeId)(x:ArR)(t:Int)(f:Frm)(o:FrO)(s:ArS)(xd:DvR)(v:Dev)(th n m n0:Nat)(a:AS)(hG:ArG th n x s a)(hF:FrOk f o)(hH:StH th n m n0 a f)(w:World)(hs:Sat (wsS wb T x t f o s xd v) w):Calls Tryz.prog (phP k) [.pointer (some ⟨wb,0,none⟩)].toArray w fun e w'=>∃z:ArS×FrO,(ArG th n x z.1 (pStep k a v t f).1∧FrOk (pStep k a v t f).2.2 z.2)∧e= .returned (.tuple #[])∧Hp ⟨w,V.ids (wsS wb T x t f o s xd v)⟩ (wsS wb T x t (pStep k a v t f).2.2 z.2 z.1 xd (pStep k a v t f).2.1) w':=by
 have hB:=hH.B
 rcases k with _|_|_|_|_|_|k
 ·exact penter_g wb T x t f o s xd v th n a hG hF hB hH.inn.ck w hs
 ·exact pfind_g wb T x t f o s xd v th n a hG hF hB hH.inn.tb (by have:=hH.inn.t;have:=hH.m;omega) hH.ks w hs
 ·exact pread_g wb T x t f o s xd v th n a hG hF hB w hs
 ·exact ptakes_g wb T x t f o s xd v th n a hG hF hB w hs
 ·exact pwrite_g wb T x t f o s xd v th n a hG hF hB w hs
 ·exact ppub_g wb T x t f o s xd v th n a hG hF hB m n0 hH.inn hH.ids hH.m hH.n0 hH.th hH.ep w hs
 ·exact pleave_g wb T x t f o s xd v th n a hG hF hB w hs
theorem pphases_g:Rz Tryz.prog 88 [] (.agg phV.toArray):=by
 intro w
 refine Cb_ Tryz.func88 rfl Tryz.ntmps88<|Sq<|Rg<|Le AA fun b0 _=>Nl<|Ps<|Sq<|Rg<|Lv (Val.buildArr phV Tryz.zeroValue211 Tryz.underlying211 Tryz.sizeOf210 rfl rfl)<|LeN (StW (cs:=phV)) fun _ _=>Nl<|Ps<|Rt<|PQ.retC (l:=phV) rfl rfl in_ Tryz.isAgg211 (by exact Tryz.sizeOf211) ?_
 exact fb_
theorem point_g (x:ArR)(t:Int)(f:Frm)(o:FrO)(s:ArS)(xd:DvR)(v:Dev)(th n m n0:Nat)(a:AS)(hG:ArG th n x s a)(hF:FrOk f o)(hH:StH th n m n0 a f):Mo Tryz.prog 62 [.pointer (some ⟨x.a,0,none⟩),.int .i64 t,.agg (frC f o).toArray] (frS f o++(arS x s xd.db++vS xd v)) (fun z:ArS×FrO=>ArG th n x z.1 (pointA a v t f).1∧FrOk (pointA a v t f).2.2 z.2) (fun z=> .agg (frC (pointA a v t f).2.2 z.2).toArray) (fun z=>frS (pointA a v t f).2.2 z.2++(arS x z.1 xd.db++vS xd (pointA a v t f).2.1)):=by
 intro w hs
 have hgz:o.gz.length=f.g.length:=by rw[← hF.gz,List.length_map]
 obtain⟨gp,gc,hvg,_,hsg⟩:=own_slg (e:=79) kzC_len o.gz o.go hF.go
 obtain⟨bp,bc,hvb,_,_,hsb⟩:=own_src hF.bo
 obtain⟨pp,pc,hvp,_,hsp⟩:=own_slg (e:=237) ptC_len f.pa o.po hF.po
 obtain⟨sp,sc,hvs,_,hss⟩:=own_slg (e:=112) prC_len f.an.ps o.so hF.so
 obtain⟨hp,hc,hvh,_,hsh⟩:=own_slg (e:=4) boC_len f.an.hs o.ho hF.ho
 rw[hgz] at hvg
 have hfi:frC f o=fiC f ⟨o.gz,gp,gc,bp,bc,pp,pc,sp,sc,hp,hc⟩:=by
  unfold frC fiC anC
  rw[hvg,hvb,hvp,hvs,hvh]
 refine Ca_ Tryz.func62 rfl Tryz.ntmps62 hs<|Sq<|Rg<|Le XA fun b5 _=>Le AA fun b6 _=>pA_ 6 ?_
 refine Lv (Lw (l:=frC f o))<|LW.re 11 (.agg (fiC f ⟨o.gz,gp,gc,bp,bc,pp,pc,sp,sc,hp,hc⟩).toArray) rfl (by rw[hfi])<|Le (CM [] fun w hw hs0=>fclone_g f ⟨o.gz,gp,gc,bp,bc,pp,pc,sp,sc,hp,hc⟩ hH.sz w ⟨hF.gz,hsg hw pk_,hsb hw pk_,hsp hw pk_,hss hw pk_,hsh hw pk_⟩) fun o2 ho2=>Lv (Bd (wkC x t f o2) (hf:=by kernel_rfl))<|Le XA fun b14 _=>pA_ 5 ?_
 refine Le (Cz_ pphases_g) fun _ _=>Le AA fun b8 _=>LeN (StW (cs:=phV)) fun _ _=>pA_ 4 ?_
 refine CW.regJoin (fun _:Unit=>True) (fun _=>[(0,.pointer (some ⟨x.a,0,none⟩)),(1,.int .i64 t),(5,.pointer (some ⟨b5,0,none⟩)),(6,.pointer (some ⟨b6,0,none⟩)),(7,.pointer (some ⟨b14,0,none⟩)),(8,.pointer (some ⟨b8,0,none⟩)),(39,.bool (pBad f))]) (fun _=>[(b5,.cells (frC f o).toArray 159 (0,0))]::[(b8,.cells phV.toArray 211 (0,0))]::[(b6,.cells (frC fr0 fo0).toArray 159 (0,0))]::[(b14,.cells (wkC x t (f) (o2)).toArray 209 (0,0))]::(frS f o2++(arS x s xd.db++vS xd v))) ?_ ?_
 ·refine pA_ 6 ?_
  refine Lv (Ld (v:= .int .i64 f.c.k))<|pA_ 3 ?_
  refine LW.split (d:=24) rfl (fun h24=>?_) (fun h24=>?_)
  ·replace h24:=bT h24
   refine pA_ 16 ?_
   refine PQ.joined (()) (trivial) (by exact⟨rfl,rfl,rfl,rfl,rfl,rfl,congrArg (fun b=>some (Value.bool b)) (by unfold pBad;rw[Bool.eq_iff_iff];simp only[eq_self,true_iff,Bool.or_eq_true,decide_eq_true_eq];omega),trivial⟩) pk_
  ·replace h24:=bF h24
   refine Lv (Fa 0 79)<|Lv (Fa 0 3)<|Lv (Ld (v:= .int .i64 f.c.k))<|pA_ 3 ?_
   refine LW.split (d:=30) rfl (fun h30=>?_) (fun h30=>?_)
   ·replace h30:=bT h30
    refine pA_ 10 ?_
    refine PQ.joined (()) (trivial) (by exact⟨rfl,rfl,rfl,rfl,rfl,rfl,congrArg (fun b=>some (Value.bool b)) (by unfold pBad;rw[Bool.eq_iff_iff];simp only[eq_self,true_iff,Bool.or_eq_true,decide_eq_true_eq];omega),trivial⟩) pk_
   ·replace h30:=bF h30
    refine Lv (Fa 5 3)<|Lv (Ld (v:= .int .i64 f.ph))<|pA_ 3 ?_
    refine LW.split (d:=35) rfl (fun h35=>?_) (fun h35=>?_)
    ·replace h35:=bT h35
     refine pA_ 5 ?_
     refine PQ.joined (()) (trivial) (by exact⟨rfl,rfl,rfl,rfl,rfl,rfl,congrArg (fun b=>some (Value.bool b)) (by unfold pBad;rw[Bool.eq_iff_iff];simp only[eq_self,true_iff,Bool.or_eq_true,decide_eq_true_eq];omega),trivial⟩) pk_
    ·replace h35:=bF h35
     refine Lv (Fa 5 3)<|Lv (Ld (v:= .int .i64 f.ph))<|pA_ 3 ?_
     refine PQ.joined (()) (trivial) (by exact⟨rfl,rfl,rfl,rfl,rfl,rfl,congrArg (fun b=>some (Value.bool b)) (by unfold pBad;rw[Bool.eq_iff_iff];simp only[Bool.or_eq_true,decide_eq_true_eq];omega),trivial⟩) pk_
 ·intro _ _
  refine Ps ?_
  refine Cd_ rfl (fun h39=>?_) fun h39=>?_
  ·have h39:pBad f=true:=h39
   refine Sq<|Rg<|Lv Mv<|Lv Nz<|Lv (Fa 2 159)<|Lv (La (frC f o2) (r:=[]) (hl:=rfl))<|LeN (StW (cs:=frC (f) o2) (h1:=by simp only[frC,klC,anC,lkC,List.cons_append,List.nil_append,List.all_cons,List.all_nil,V.ownV_one,oneS,oneI,oneB,Bool.and_true])) fun _ _=>Nl<|Ps<|Rt<|Tr<|PQ.retC (l:=frC (f) o2) rfl rfl in_ Tryz.isAgg159 (by exact Tryz.sizeOf159) ?_
   have e1:pointA a v t f=(a,v,f):=if_pos h39
   rw[e1]
   exact fi_ (s,o2) ⟨hG,ho2⟩
  ·have h39:pBad f=false:=h39
   obtain⟨k,hk⟩:∃k:Nat,f.ph=k:=⟨f.ph.toNat,by unfold pBad at h39;simp at h39;omega⟩
   have hk7:k<7:=by unfold pBad at h39;simp at h39;omega
   refine Sk<|Ps<|Sq<|Rg<|Lv (Fa 5 3)<|Lv (Ld (v:= .int .i64 f.ph))<|LW.re 45 (.int .i64 (k:Nat)) rfl (by rw[hk])<|Lv (Val.indexAddrA (i:=k) rfl rfl Tryz.underlying211 Tryz.sizeOf210 om_)<|Lv (Ld (v:= .func (.func (phP k)) #[] #[]) (hl:=phV_at hk7))<|Lv Mv<|Le (Eff.callFM (f:=(phP k)) (caps:=[]) ((wsS b14 209 x t f o2 s xd v)) pk_ rfl rfl (call_ph k) (fun w hw hs0=>pwork_g k b14 209 x t f o2 s xd v th n m n0 a hG ho2 hH w hs0)) fun z hz=>Nl<|Ps<|Sq<|Rg<|Lv Mv<|Lv Nz<|Lv (Fa 2 159)<|Lv (La (frC (pStep k a v t f).2.2 z.2) (r:=[]) (hl:=rfl))<|LeN (StW (cs:=frC ((pStep k a v t f).2.2) z.2) (h1:=by simp only[frC,klC,anC,lkC,List.cons_append,List.nil_append,List.all_cons,List.all_nil,V.ownV_one,oneS,oneI,oneB,Bool.and_true])) fun _ _=>Nl<|Ps<|Rt<|PQ.retC (l:=frC ((pStep k a v t f).2.2) z.2) rfl rfl in_ Tryz.isAgg159 (by exact Tryz.sizeOf159) ?_
   have e1:pointA a v t f=pStep k a v t f:=(if_neg (by rw[h39];decide)).trans (by rw[hk];rfl)
   rw[e1]
   intro w' hw;exact⟨z,hz,rfl,hw.pick (ss:=frS (pStep k a v t f).2.2 z.2++(arS x z.1 xd.db++vS xd (pStep k a v t f).2.1)) pk_⟩
end
end G
end Go.Proofs.YtjidffamcdcecaaGreat
namespace Go.Proofs.YtjidffamcdcecaaGreat
open Go Go.RowKit V
set_option linter.unusedVariables false
set_option maxRecDepth 100000
set_option maxHeartbeats 1000000
namespace G
theorem st_cell {D:List Ce}{line:Int}{bs:List UInt8}(hb:bs.length=64){i:Nat}{c:Ce}(h:(stD D line 0 bs)[i]? =some c):∃c0,D[i]? =some c0∧c.kept=c0.kept∧c.way=c0.way∧c.sent=c0.sent∧(line≠(i:Nat)→c.now=c0.now)∧(line=(i:Nat)→c.now.1=bs):=by
 unfold stD at h
 by_cases ht:thB D.length line 0 bs.length=true
 ·rw[if_pos ht] at h
  obtain⟨k,a,c0,rfl,_,hc,_⟩:=th_get ht
  rw[upD_set hc] at h
  by_cases e:k=i
  ·subst e
   rw[List.getElem?_set_self (List.getElem?_eq_some_iff.1 hc).1] at h
   injection h with h
   subst h
   exact⟨c0,hc,rfl,rfl,rfl,fun hn=>absurd rfl hn,fun _=>put_all hb⟩
  ·rw[List.getElem?_set_ne e] at h
   exact⟨c,h,rfl,rfl,rfl,fun _=>rfl,fun hn=>absurd om_ e⟩
 ·rw[if_neg ht] at h
  refine⟨c,h,rfl,rfl,rfl,fun _=>rfl,fun hl=>?_⟩
  exfalso
  apply ht
  have:=(List.getElem?_eq_some_iff.1 h).1
  unfold thB
  rw[decide_eq_true_eq,hb]
  omega
theorem now_get {D:List Ce}{i:Int}(h:0≤i∧i<D.length):∃c,D[i.toNat]? =some c∧nowL D i=c.now.1:=by
 have hc:D[i.toNat]? =some (D[i.toNat]'om_):=by simp
 refine⟨_,hc,?_⟩
 have:=nowL_of hc
 rwa [Int.toNat_of_nonneg h.1] at this
theorem st_now {D:List Ce}{line:Int}{bs:List UInt8}(hb:bs.length=64)(hl:0≤line∧line<D.length)(i:Int):nowL (stD D line 0 bs) i=if i=line then bs else nowL D i:=by
 by_cases hi:0≤i∧i<D.length
 ·obtain⟨c,hc,e⟩:=now_get (D:=stD D line 0 bs) (i:=i) (by rw[stD_len];exact hi)
  obtain⟨c0,hc0,_,_,_,h4,h5⟩:=st_cell hb hc
  rw[e]
  split
  ·rename_i e2
   exact h5 om_
  ·rename_i e2
   rw[h4 om_]
   have:=nowL_of hc0
   rwa [Int.toNat_of_nonneg hi.1,eq_comm] at this
 ·rw[if_neg om_]
  exact now_out (stD_len _ _ _ _) hi
theorem lines_now {D D':List Ce}{line:Int}{n:Nat}(h:∀j:Nat,j<n→nowL D' (line+(j:Nat))=nowL D (line+(j:Nat))):linesL D' line n=linesL D line n:=lines_eq h
theorem draft_len {c:Int}(h:spanF c≠0):(draftL c).length=64:=by
 unfold draftL
 rw[if_neg h]
 have hm:mayF ⟨c,0,0,0,0,[],[]⟩=true:=by
  unfold mayF
  rw[if_neg h,if_pos rfl];rfl
 have hn:=may_num hm
 have hsp:=capN_span h
 rw[headL_eq hn,List.length_append,List.length_append,hd32_len,layF_len,List.length_take,List.length_replicate]
 omega
def calmH (l:List UInt8):Prop:=∀c k,headF l=some (c,k)→k=0
theorem calm_draft {c:Int}(h:spanF c≠0):calmH (draftL c):=fun a k hh=>by
 have:=draft_head h
 rw[hh] at this
 simpa using this
theorem calm_two {l:List UInt8}(h:l[0]? =some 2):calmH l:=fun a k hh=>by
 have:=head_one hh
 rw[h] at this
 simp at this
theorem wr_two (c:Kal)(i:Int):(wrL c i)[0]? =some 2:=rfl
theorem zeros_drop {α:Type}{X:List α}{z:α}{m n:Nat}(h:m+63≤X.length+n):((X++List.replicate n z).drop m).take 63=(X.drop (min m X.length)).take 63++List.replicate (63-((X.drop (min m X.length)).take 63).length) z:=by
 by_cases hm:m≤X.length
 ·rw[Nat.min_eq_left hm,List.drop_append_of_le_length hm,List.take_append,List.length_take,List.length_drop,List.take_replicate]
  congr 2
  omega
 ·rw[Nat.min_eq_right om_,List.drop_append,List.drop_eq_nil_of_le om_,List.nil_append,List.drop_eq_nil_of_le (Nat.le_refl _),List.take_nil,List.nil_append,List.drop_replicate,List.take_replicate]
  congr 1
  simp;omega
theorem enc_wr {x:Blk}(hm:mayF x=true){c:Kal}(hb:bytesK c=x.key++x.val){j:Nat}(h1:1≤j)(h2:j<spanF x.cls):((encL x).drop (64*j)).take 64=wrL c (j:Nat):=by
 have hn:=may_num hm
 have hsp:=capN_span (may_span hm)
 have hd:=dataB_len hm
 have hcap:=may_cap hm
 have h64:(headL x (dataB x)).length=64:=by
  rw[headL_eq hn,List.length_append,List.length_append,hd32_len,layF_len,List.length_take];omega
 obtain⟨i,rfl⟩:∃i,j=i+1:=⟨j-1,by omega⟩
 have e2:encL x=(headL x (dataB x))++tailL (dataB x) (spanF x.cls-1):=rfl
 have e3:∀k,i<k→28+63*k≤(dataB x).length→((tailL (dataB x) k).drop (64*i)).take 64=2::((dataB x).drop (28+63*i)).take 63:=by
  intro k
  induction k with
  |zero=>omega
  |succ k ih=>
   intro hi hl
   have ht:=tailL_len (dataB x) k om_
   rw[tailL_succ]
   by_cases e:i=k
   ·subst e
    rw[List.drop_append,List.drop_eq_nil_of_le om_,List.nil_append,ht,Nat.sub_self,List.drop_zero,List.take_of_length_le (by rw[List.length_cons,List.length_take];omega)]
   ·rw[List.drop_append_of_le_length om_,List.take_append_of_le_length (by rw[List.length_drop];omega),ih om_ om_]
 rw[e2,List.drop_append,List.drop_eq_nil_of_le om_,List.nil_append,h64,show 64*(i+1)-64=64*i by omega,e3 _ om_ om_]
 unfold wrL wrD wrN
 rw[hb]
 congr 1
 unfold dataB
 rw[zeros_drop (by rw[List.length_append];omega)]
 have e4:(((i+1:Nat):Int)-1).toNat=i:=by omega
 rw[e4,show 28+63*i=28+i*63 by omega]
theorem lines_of {D:List Ce}{line:Int}{l:List UInt8}:∀{n:Nat},l.length=64*n→(∀j:Nat,j<n→nowL D (line+(j:Nat))=(l.drop (64*j)).take 64)→linesL D line n=l
 |0,hl,_=>by
  have:l=[]:=List.length_eq_zero_iff.1 om_
  subst this;rfl
 |n+1,hl,h=>by
  rw[linesL_succ,lines_of (l:=l.take (64*n)) (by rw[List.length_take];omega) (fun j hj=>by
   rw[h j om_,List.drop_take,List.take_take,Nat.min_eq_left om_]),h n om_,List.take_of_length_le (l:=l.drop (64*n)) (by rw[List.length_drop];omega),List.take_append_drop]
theorem lines_part {D:List Ce}{line:Int}{l:List UInt8}:∀{n:Nat},l.length=64*n→linesL D line n=l→∀j:Nat,j<n→nowL D (line+(j:Nat))=(l.drop (64*j)).take 64
 |0,_,_,j,hj=>by omega
 |n+1,hl,h,j,hj=>by
  have hfull:∀j:Nat,j<n+1→(nowL D (line+(j:Nat))).length=64:=lines_full (by rw[h,hl])
  rw[linesL_succ] at h
  have hle:=linesL_le D line n
  have h64:=hfull n om_
  have hln:(linesL D line n).length=64*n:=by
   have:=congrArg List.length h
   rw[List.length_append,h64,hl] at this
   omega
  by_cases e:j=n
  ·subst e
   rw[← h,List.drop_append,List.drop_eq_nil_of_le om_,List.nil_append,hln,Nat.sub_self,List.drop_zero,List.take_of_length_le om_]
  ·rw[lines_part (l:=linesL D line n) hln rfl j om_,← h,List.drop_append_of_le_length om_,List.take_append_of_le_length (by rw[List.length_drop];omega)]
abbrev Pub:=List (Int×Blk)
def lkP (p:Int×Blk):Lk:=⟨p.2.key,p.2.id,p.2.ver,p.1,p.2.cls⟩
structure Live (P:Pub)(p:Int×Blk):Prop where
 mem:p∈P
 map:p.2.kind=1
 top:∀q∈P,q.2.id=p.2.id→q.2.ver≤p.2.ver
structure JB (L:List Slb)(D:List Ce)(P:Pub):Prop where
 may:∀p∈P,mayF p.2=true∧(p.2.kind=1∨p.2.kind=3)
 tk:∀p∈P,Tk L p.1 p.2.cls
 one:∀p∈P,∀q∈P,p.1=q.1→p=q
 now:∀p∈P,linesL D p.1 (spanF p.2.cls)=encL p.2
 calm:∀i:Int,2≤i→(∀p∈P,p.1≠i)→calmH (nowL D i)
 fit:2+8*L.length≤D.length
structure JN (a:AS)(P:Pub):Prop where
 ver:a.ver=P.length
 vers:∀(i:Nat) (p:Int×Blk),P[i]? =some p→p.2.ver=(i:Int)+1
 ids:∀p∈P,1≤p.2.id∧p.2.id≤a.id
 idn:a.id≤P.length
 tab:∀l,l∈tLinks a.Tz↔∃p,Live P p∧l=lkP p
 ep:∀p∈P,1≤p.2.ep∧p.2.ep≤a.ck.now
 noted:∀p∈P,p.2.ep=a.ck.now→∀j:Nat,j<spanF p.2.cls→a.ck.noted[(p.1+(j:Nat)).toNat]? =some true
 rng:∀i:Nat,a.ck.noted[i]? =some true→2≤i∧i<2+8*a.L.length
 q:a.q=[]
theorem kNotes_at {th:Nat}{c:Ck}(hk:c.Ok th){t line:Int}(ht:inR c.owed t):∀{k:Nat},0≤line∧line+(k:Nat)≤258→(kNotes c t line k).now=c.now∧(kNotes c t line k).owed.length=c.owed.length∧∀i:Nat,(kNotes c t line k).noted[i]? =if line≤(i:Int)∧(i:Int)<line+k then some true else c.noted[i]?
 |0,h=>⟨rfl,rfl,fun i=>by rw[if_neg om_];rfl⟩
 |k+1,h=>by
  obtain⟨h1,h2,h3⟩:=kNotes_at (line:=line) (k:=k) hk ht om_
  have hok:=(kNotes_ok hk t line k)
  have hE:kNoteE (kNotes c t line k) t (line+(k:Nat))=0:=by
   unfold kNoteE
   rw[if_pos (by unfold inR at ht⊢;rw[h2];exact ht),if_pos om_]
  have e:kNotes c t line (k+1)={kNotes c t line k with owed:=(kNotes c t line k).owed.set t.toNat (IntKind.i64.wrap ((kNotes c t line k).owed.getD t.toNat 0+1)),noted:=(kNotes c t line k).noted.set (line+(k:Nat)).toNat true}:=by
   show kNote _ _ _=_
   unfold kNote
   rw[if_pos hE]
  rw[e]
  refine⟨h1,by simp[h2],fun i=>?_⟩
  simp only
  rw[List.getElem?_set,h3 i]
  by_cases hi:(line+(k:Nat)).toNat=i
  ·rw[if_pos hi,if_pos (by rw[hok.2.1];omega),if_pos om_]
  ·rw[if_neg hi]
   by_cases h8:line≤(i:Int)∧(i:Int)<line+k
   ·rw[if_pos h8,if_pos om_]
   ·rw[if_neg h8,if_neg om_]
theorem JN.inj {a:AS}{P:Pub}(h:JN a P){p q:Int×Blk}(hp:p∈P)(hq:q∈P)(e:p.2.ver=q.2.ver):p=q:=by
 obtain⟨i,hi⟩:=List.mem_iff_getElem?.1 hp
 obtain⟨j,hj⟩:=List.mem_iff_getElem?.1 hq
 have h1:=h.vers i p hi
 have h2:=h.vers j q hj
 have:i=j:=by omega
 subst this
 rw[hi] at hj
 exact Option.some.inj hj
theorem JN.lt {a:AS}{P:Pub}(h:JN a P){p:Int×Blk}(hp:p∈P):1≤p.2.ver∧p.2.ver≤P.length:=by
 obtain⟨i,hi⟩:=List.mem_iff_getElem?.1 hp
 have h1:=h.vers i p hi
 have h2:=(List.getElem?_eq_some_iff.1 hi).1
 omega
theorem live_one {a:AS}{P:Pub}(h:JN a P){p q:Int×Blk}(hp:Live P p)(hq:Live P q)(e:p.2.id=q.2.id):p=q:=
 h.inj hp.mem hq.mem (Int.le_antisymm (hq.top p hp.mem e) (hp.top q hq.mem e.symm))
theorem tab_next {a:AS}{P:Pub}(hJ:JN a P)(hT:tInv a.Tz){key:List UInt8}{had:Bool}{old:Lk}(hget:tGet a.Tz key=if had=true then some old else none){n:Int×Blk}{T':Tbl}
 (hv:n.2.ver=P.length+1)(hid:if had=true then n.2.id=old.id else n.2.id=a.id+1)
 (hT':∀l,l∈tLinks T'↔(l∈tLinks a.Tz∧l.key≠key)∨(n.2.kind=1∧l=lkP n))(hk:n.2.kind=1∨(n.2.kind=3∧had=true))(hkey:n.2.kind=1→n.2.key=key):
 ∀l,l∈tLinks T'↔∃p,Live (P++[n]) p∧l=lkP p:=by
 have hget2:∀l,l∈tLinks a.Tz→l.key=key→had=true∧old=l:=fun l hl hk=>by
  have h1:=(tget_iff hT (k:=key) (l:=l)).2 ⟨hl,hk⟩
  rw[hget] at h1
  split at h1
  ·rename_i h2
   exact⟨h2,Option.some.inj h1⟩
  ·cases h1
 have hold:had=true→old∈tLinks a.Tz∧old.key=key:=fun h2=>by
  rw[if_pos h2] at hget
  exact(tget_iff hT).1 hget
 have hnew:∀p,Live P p→p.2.key≠key→n.2.id≠p.2.id:=fun p hp hne e=>by
  by_cases h2:had=true
  ·rw[if_pos h2] at hid
   obtain⟨h3,h4⟩:=hold h2
   obtain⟨p0,h5,h6⟩:=(hJ.tab old).1 h3
   have h7:p0.2.id=old.id:=by rw[h6];rfl
   have h8:=live_one hJ hp h5 om_
   subst h8
   apply hne
   rw[← h4,h6];rfl
  ·rw[if_neg h2] at hid
   have:=(hJ.ids p hp.mem).2
   omega
 intro l
 rw[hT' l]
 constructor
 ·rintro(⟨h1,h2⟩|⟨h1,h2⟩)
  ·obtain⟨p,h3,rfl⟩:=(hJ.tab l).1 h1
   have h4:=hnew p h3 h2
   refine⟨p,⟨List.mem_append_left _ h3.mem,h3.map,fun q hq e=>?_⟩,rfl⟩
   rcases List.mem_append.1 hq with hq|hq
   ·exact h3.top q hq e
   ·rw[List.mem_singleton.1 hq] at e
    exact absurd e h4
  ·refine⟨n,⟨by simp,h1,fun q hq e=>?_⟩,h2⟩
   rcases List.mem_append.1 hq with hq|hq
   ·have:=(hJ.lt hq).2;omega
   ·rw[List.mem_singleton.1 hq];exact Int.le_refl _
 ·rintro⟨p,h1,rfl⟩
  rcases List.mem_append.1 h1.mem with hp|hp
  ·left
   have h3:Live P p:=⟨hp,h1.map,fun q hq e=>h1.top q (List.mem_append_left _ hq) e⟩
   have h4:=(hJ.tab (lkP p)).2 ⟨p,h3,rfl⟩
   refine⟨h4,fun e=>?_⟩
   obtain⟨h5,h6⟩:=hget2 _ h4 e
   rw[if_pos h5,h6] at hid
   have h7:=h1.top n (by simp) hid
   have:=(hJ.lt hp).2
   omega
  ·right
   rw[List.mem_singleton.1 hp] at h1⊢
   exact⟨h1.map,rfl⟩
theorem jb_next {L:List Slb}{D:List Ce}{P:Pub}(h:JB L D P){line:Int}{b:Blk}(hm:mayF b=true)(hk:b.kind=1∨b.kind=3)(ht:Tk L line b.cls)(hu:∀p∈P,p.1≠line){c:Kal}(hc:bytesK c=b.key++b.val)(hd:∀j:Nat,1≤j→j<spanF b.cls→nowL D (line+(j:Nat))=wrL c (j:Nat)):
 JB L (stD D line 0 ((encL b).take 64)) (P++[(line,b)]):=by
 have hl:=encL_len hm
 have hsp:=(capN_span (may_span hm)).2
 have hr:=tk_rng ht
 have hf:=h.fit
 have h64:((encL b).take 64).length=64:=by rw[List.length_take];omega
 have hst:=st_now (D:=D) h64 (line:=line) om_
 refine⟨?_,?_,?_,?_,?_,by rw[stD_len];exact hf⟩
 ·intro p hp
  rcases List.mem_append.1 hp with hp|hp
  ·exact h.may p hp
  ·rw[List.mem_singleton.1 hp];exact⟨hm,hk⟩
 ·intro p hp
  rcases List.mem_append.1 hp with hp|hp
  ·exact h.tk p hp
  ·rw[List.mem_singleton.1 hp];exact ht
 ·intro p hp q hq e
  rcases List.mem_append.1 hp with hp|hp<;>rcases List.mem_append.1 hq with hq|hq
  ·exact h.one p hp q hq e
  ·rw[List.mem_singleton.1 hq] at e;exact absurd e (hu p hp)
  ·rw[List.mem_singleton.1 hp] at e;exact absurd e.symm (hu q hq)
  ·rw[List.mem_singleton.1 hp,List.mem_singleton.1 hq]
 ·intro p hp
  rcases List.mem_append.1 hp with hp|hp
  ·rw[← h.now p hp]
   refine lines_now fun j hj=>?_
   have:=tk_apart (h.tk p hp) ht (hu p hp)
   rw[hst,if_neg om_]
  ·rw[List.mem_singleton.1 hp]
   refine lines_of hl fun j hj=>?_
   rw[hst]
   by_cases e:j=0
   ·subst e
    rw[if_pos (by simp)];rfl
   ·rw[if_neg om_,hd j om_ hj,← enc_wr hm hc om_ hj]
 ·intro i hi hn
  rw[hst,if_neg (fun e=>hn (line,b) (by simp) e.symm)]
  exact h.calm i hi fun p hp=>hn p (List.mem_append_left _ hp)
theorem jb_calm {L:List Slb}{D:List Ce}{P:Pub}(h:JB L D P){line:Int}{bs:List UInt8}(hb:bs.length=64)(hc:calmH bs)(hl:0≤line∧line<D.length)(hu:∀p∈P,line<p.1∨p.1+spanF p.2.cls≤line):JB L (stD D line 0 bs) P:=by
 have hst:=st_now (D:=D) hb hl
 refine⟨h.may,h.tk,h.one,?_,?_,by rw[stD_len];exact h.fit⟩
 ·intro p hp
  rw[← h.now p hp]
  refine lines_now fun j hj=>?_
  have:=hu p hp
  rw[hst,if_neg om_]
 ·intro i hi hn
  rw[hst]
  split
  ·exact hc
  ·exact h.calm i hi hn
theorem jb_pool {L L':List Slb}{D:List Ce}{P:Pub}(h:JB L D P)(hl:L'.length=L.length)(ht:∀p∈P,Tk L' p.1 p.2.cls):JB L' D P:=⟨h.may,ht,h.one,h.now,h.calm,by rw[hl];exact h.fit⟩
theorem pub_one {a:AS}{v:Dev}{t e:Int}{y:Chg}(h0:pubE a t e [y]=0)(hn:needB y=true):pubA t e a v [y]=(chA t e a y 0,chDev e a v y):=by
 unfold pubA pubZ
 rw[if_pos h0]
 unfold pubGo pubGo
 rw[if_pos hn]
theorem laid_put {y:Chg}(h:y.kind=2)(id ver e:Int):laidF y id ver e=⟨y.cls,1,id,ver,e,y.key,y.val⟩:=by unfold laidF;rw[if_pos h]
theorem laid_del {y:Chg}(h:y.kind=3)(id ver e:Int):laidF y id ver e=⟨0,3,id,ver,e,[],[]⟩:=by unfold laidF;rw[if_neg om_,if_neg om_]
theorem pub_js {th n m f:Nat}{a:AS}{v:Dev}{P:Pub}{t e:Int}{y:Chg}(hJ:JN a P)(hB:JB a.L v.D P)(hin:a.In th n m f)(hids:a.Ids)(hk:y.kind=2∨y.kind=3)(h0:pubE a t e [y]=0)(hn:needB y=true)
 (hT:Tk a.L y.line y.cls)(hc3:y.kind=3→y.cls=0)(hu:∀p∈P,p.1≠y.line){c:Kal}(hc:bytesK c=(chB a y e).key++(chB a y e).val)(hd:∀j:Nat,1≤j→j<spanF y.cls→nowL v.D (y.line+(j:Nat))=wrL c (j:Nat)):
 JN (chA t e a y 0) (P++[(y.line,chB a y e)])∧JB (chA t e a y 0).L (chDev e a v y).D (P++[(y.line,chB a y e)])∧(chB a y e).ep=a.ck.now:=by
 obtain⟨hth,hsh,hnow,hfd,hhe,hft⟩:=pubE_zero h0
 have hmay:=(pub_ok hin hids (v:=v) h0 (k:=0) (y:=y) rfl hn).1
 have hmay:mayF (chB a y e)=true:=hmay
 have hr:=tk_rng hT
 have hpl:=hin.pl.2
 have hkc:(chB a y e).cls=y.cls∧((chB a y e).kind=1∨(chB a y e).kind=3)∧(chB a y e).ep=e∧(chB a y e).ver=a.ver+1∧(chB a y e).id=chId a y:=by
  unfold chB
  rcases hk with hk|hk
  ·rw[laid_put hk];exact⟨rfl,.inl rfl,rfl,rfl,rfl⟩
  ·rw[laid_del hk];exact⟨(hc3 hk).symm,.inr rfl,rfl,rfl,rfl⟩
 obtain⟨e1,e2,e3,e4,e5⟩:=hkc
 have hmap:mapB y=true:=by unfold mapB;rcases hk with hk|hk<;>simp[hk]
 have hf:fndB a.Tz a.q y=true:=by simpa using hfd
 unfold fndB at hf
 rw[if_pos hmap,Bool.and_eq_true] at hf
 have hget:tGet a.Tz y.key=if y.had=true then some y.old else none:=by
  cases hg:tGet a.Tz y.key with
  |none=>rw[hg] at hf;have:=hf.1;cases hh:y.had<;>simp_all
  |some l=>rw[hg] at hf;have h1:=hf.1;have h2:=hf.2;cases hh:y.had<;>simp_all
 have hidc:if y.had=true then chId a y=y.old.id else chId a y=a.id+1:=by
  unfold chId newId
  rcases hk with hk|hk
  ·cases hh:y.had<;>simp[hk]
  ·have:y.had=true:=by unfold needB at hn;simpa[hk] using hn
   simp[hk,this]
 have hchN:a.id≤chN a y∧(chId a y≤chN a y):=by
  by_cases hh:y.had=true
  ·rw[if_pos hh] at hidc
   rw[if_pos hh] at hget
   have h1:=(tget_iff hin.tb).1 hget
   obtain⟨p,hp,e8⟩:=(hJ.tab _).1 h1.1
   have h2:=(hJ.ids p hp.mem).2
   have h3:y.old.id=p.2.id:=by rw[e8];rfl
   unfold chN
   split<;>omega
  ·rw[if_neg hh] at hidc
   unfold chN
   have:newId y=true:=by
    unfold newId
    rcases hk with hk|hk
    ·simp[hk,hh]
    ·exfalso;unfold needB at hn;simp[hk,hh] at hn
   rw[if_pos this];omega
 have hid1:1≤chId a y:=by
  by_cases hh:y.had=true
  ·rw[if_pos hh] at hidc
   rw[if_pos hh] at hget
   have h1:=(tget_iff hin.tb).1 hget
   obtain⟨p,hp,e8⟩:=(hJ.tab _).1 h1.1
   have h2:=(hJ.ids p hp.mem).1
   have h3:y.old.id=p.2.id:=by rw[e8];rfl
   omega
  ·rw[if_neg hh] at hidc
   have:=hin.id.1
   omega
 have hL8:y.line+spanF y.cls≤258:=by omega
 have hN:=kNotes_at hin.ck hth (line:=y.line) (k:=spanF (chB a y e).cls) (by rw[e1];omega)
 refine⟨⟨?_,?_,?_,?_,?_,?_,?_,?_,?_⟩,?_,?_⟩
 ·show a.ver+1=_
  rw[hJ.ver];simp
 ·intro i p hp
  by_cases hi:i<P.length
  ·rw[List.getElem?_append_left hi] at hp
   exact hJ.vers i p hp
  ·rw[List.getElem?_append_right om_] at hp
   by_cases hi2:i=P.length
   ·subst hi2
    simp at hp
    subst hp
    show(chB a y e).ver=_
    rw[e4,hJ.ver]
   ·rw[List.getElem?_eq_none (by simp;omega)] at hp;cases hp
 ·intro p hp
  show 1≤_∧_≤chN a y
  rcases List.mem_append.1 hp with hp|hp
  ·have:=hJ.ids p hp;omega
  ·rw[List.mem_singleton.1 hp]
   show 1≤(chB a y e).id∧(chB a y e).id≤_
   rw[e5];exact⟨hid1,hchN.2⟩
 ·show chN a y≤_
  have:=hJ.idn
  rw[List.length_append,List.length_singleton]
  unfold chN
  split<;>omega
 ·refine tab_next hJ hin.tb (n:=(y.line,chB a y e)) hget (by show(chB a y e).ver=_;rw[e4,hJ.ver]) (by show if _ then(chB a y e).id=_ else(chB a y e).id=_;rw[e5];exact hidc) ?_ ?_ ?_
  ·intro l
   show l∈tLinks (chT a y e)↔_
   rcases hk with hk|hk
   ·have ek:(chB a y e).kind=1:=by unfold chB;rw[laid_put hk]
    have eT:chT a y e=tSet a.Tz (chL a y e):=by unfold chT;rw[if_pos hk]
    have eL:chL a y e=lkP (y.line,chB a y e):=by
     unfold chL lkP
     rw[e5,e4]
    have eK:(chL a y e).key=y.key:=by show(chB a y e).key=_;unfold chB;rw[laid_put hk]
    rw[eT,(tset_list hin.tb (chL a y e)).2.mem_iff,List.mem_append,List.mem_filter,List.mem_singleton,eK,eL]
    unfold nk
    simp[ek]
   ·have ek:(chB a y e).kind=3:=by unfold chB;rw[laid_del hk]
    have eT:chT a y e=tDrop a.Tz y.key:=by unfold chT;rw[if_neg om_,if_pos hk]
    rw[eT,(tdrop_list hin.tb y.key).2.mem_iff,List.mem_filter]
    unfold nk
    simp[ek]
  ·rcases hk with hk|hk
   ·left;show(chB a y e).kind=1;unfold chB;rw[laid_put hk]
   ·right
    refine⟨by show(chB a y e).kind=3;unfold chB;rw[laid_del hk],?_⟩
    unfold needB at hn;simpa[hk] using hn
  ·intro h1
   rcases hk with hk|hk
   ·show(chB a y e).key=_;unfold chB;rw[laid_put hk]
   ·exfalso
    have h2:(chB a y e).kind=1:=h1
    unfold chB at h2
    rw[laid_del hk] at h2
    have h2:(3:Int)=1:=h2
    omega
 ·intro p hp
  show 1≤_∧_≤(kNotes a.ck t y.line _).now
  rw[hN.1]
  rcases List.mem_append.1 hp with hp|hp
  ·exact hJ.ep p hp
  ·rw[List.mem_singleton.1 hp]
   show 1≤(chB a y e).ep∧(chB a y e).ep≤_
   have hnum:numF (chB a y e).ep=true:=by
    have h8:=hmay
    unfold mayF at h8
    rw[if_neg (may_span hmay),if_neg om_,Bool.and_eq_true,Bool.and_eq_true,Bool.and_eq_true] at h8
    exact h8.2.2.2
   unfold numF at hnum
   have:=of_decide_eq_true hnum
   rw[e3,hnow] at*
   omega
 ·intro p hp hep j hj
  show(kNotes a.ck t y.line _).noted[_]? =_
  have hep:p.2.ep=(kNotes a.ck t y.line (spanF (chB a y e).cls)).now:=hep
  rw[hN.1] at hep
  rw[hN.2.2]
  rcases List.mem_append.1 hp with hp|hp
  ·split
   ·rfl
   ·exact hJ.noted p hp hep j hj
  ·rw[List.mem_singleton.1 hp] at hj⊢
   have hj:j<spanF (chB a y e).cls:=hj
   rw[e1] at hj⊢
   rw[if_pos (by simp only;omega)]
 ·intro i hi
  show 2≤i∧i<2+8*a.L.length
  have hi:(kNotes a.ck t y.line (spanF (chB a y e).cls)).noted[i]? =some true:=hi
  rw[hN.2.2,e1] at hi
  by_cases h8:y.line≤(i:Int)∧(i:Int)<y.line+(spanF y.cls:Nat)
  ·omega
  ·rw[if_neg h8] at hi
   exact hJ.rng i hi
 ·show chQ a y e=[]
  unfold chQ
  rw[if_neg om_,if_neg om_]
  exact hJ.q
 ·have hst:(chDev e a v y).D=stD v.D y.line 0 ((encL (chB a y e)).take 64):=rfl
  rw[hst]
  exact jb_next hB hmay e2 (by rw[e1];exact hT) hu hc (by rw[e1];exact hd)
 ·rw[e3];exact hnow.symm
structure FW (L:List Slb)(D:List Ce)(P:Pub)(f:Frm)(n:Nat):Prop where
 tk:Tk L f.line f.cls
 un:∀p∈P,p.1≠f.line
 cl:f.cls=needF (sizeK f.c)
 dt:∀j:Nat,1≤j→j<n→nowL D (f.line+(j:Nat))=wrL f.c (j:Nat)
structure Fr1 (L:List Slb)(D:List Ce)(P:Pub)(f:Frm):Prop where
 k:f.c.k=2∨f.c.k=3
 kl:f.c.key.length≤500∧f.c.val.length≤500
 z:f.g=[]∧f.bs=[]∧f.pa=[]∧f.an.ps=[]∧f.an.hs=[]
 ep:0≤f.ep∧f.ep≤100
 ph:f.ph=0∨f.ph=1∨f.ph=3∨f.ph=4∨f.ph=5∨f.ph=6∨f.ph=7
 pc:0≤f.pc∧f.pc≤8
 ol:0≤f.old.line∧f.old.line≤1000
 ln: -1≤f.line∧f.line≤1000
 w0:f.ph=0→f.line<0
 w:(f.ph=1∧0≤f.line)∨f.ph=5→FW L D P f (spanF f.cls)
 w4:f.ph=4→f.pc<spanF f.cls∧FW L D P f f.pc.toNat
structure ST (n:Nat)(a:AS)(v:Dev)(P:Pub):Prop where
 jn:JN a P
 jb:JB a.L v.D P
 inn:a.In 2 n P.length P.length
 now:0≤a.ck.now∧a.ck.now≤100
structure DvL (D D':List Ce):Prop where
 len:D'.length=D.length
 at_:∀(i:Nat) (c':Ce),D'[i]? =some c'→∃c,D[i]? =some c∧c'.kept=c.kept∧c'.way=c.way∧c'.sent=c.sent∧(i<2→c'.now=c.now)
structure CkS (c c':Ck):Prop where
 now:c'.now=c.now
 clo:c'.clo=c.clo
 dur:c'.dur=c.dur
 left:c'.left=c.left
 ph:c'.ph=c.ph
theorem DvL.refl (D:List Ce):DvL D D:=⟨rfl,fun i c h=>⟨c,h,rfl,rfl,rfl,fun _=>rfl⟩⟩
theorem DvL.trans {D D1 D2:List Ce}(h:DvL D D1)(k:DvL D1 D2):DvL D D2:=⟨k.len.trans h.len,fun i c2 h2=>by
 obtain⟨c1,h1,a1,a2,a3,a4⟩:=k.at_ i c2 h2
 obtain⟨c,h0,b1,b2,b3,b4⟩:=h.at_ i c1 h1
 exact⟨c,h0,a1.trans b1,a2.trans b2,a3.trans b3,fun hi=>(a4 hi).trans (b4 hi)⟩⟩
theorem DvL.st (D:List Ce){line:Int}{bs:List UInt8}(hb:bs.length=64)(hl:2≤line):DvL D (stD D line 0 bs):=⟨stD_len _ _ _ _,fun i c h=>by
 obtain⟨c0,h0,h1,h2,h3,h4,_⟩:=st_cell hb h
 exact⟨c0,h0,h1,h2,h3,fun hi=>h4 om_⟩⟩
theorem CkS.refl (c:Ck):CkS c c:=⟨rfl,rfl,rfl,rfl,rfl⟩
theorem CkS.trans {c d e:Ck}(h:CkS c d)(k:CkS d e):CkS c e:=⟨k.now.trans h.now,k.clo.trans h.clo,k.dur.trans h.dur,k.left.trans h.left,k.ph.trans h.ph⟩
theorem kNote_s (c:Ck)(t l:Int):CkS c (kNote c t l):=by unfold kNote;split<;>exact⟨rfl,rfl,rfl,rfl,rfl⟩
theorem kNotes_s (c:Ck)(t l:Int):∀k,CkS c (kNotes c t l k)
 |0=> .refl c
 |k+1=>(kNotes_s c t l k).trans (kNote_s _ _ _)
theorem ST.rd {n:Nat}{a:AS}{v:Dev}{P:Pub}(h:ST n a v P){r:Rdr}(hr:r.has.length=a.rd.has.length):ST n {a with rd:=r} v P:=
 ⟨⟨h.jn.ver,h.jn.vers,h.jn.ids,h.jn.idn,h.jn.tab,h.jn.ep,h.jn.noted,h.jn.rng,h.jn.q⟩,h.jb,⟨h.inn.ck,h.inn.ph,hr.trans h.inn.rd,h.inn.pl,h.inn.sl,h.inn.tb,h.inn.D4,h.inn.t,h.inn.d,h.inn.q,h.inn.b,h.inn.e,h.inn.id,h.inn.ver⟩,h.now⟩
theorem ST.pl {n:Nat}{a:AS}{v:Dev}{P:Pub}(h:ST n a v P){L:List Slb}(hl:L.length=a.L.length)(hp:plOk L)(ht:∀p∈P,Tk L p.1 p.2.cls):ST n {a with L:=L} v P:=
 ⟨⟨h.jn.ver,h.jn.vers,h.jn.ids,h.jn.idn,h.jn.tab,h.jn.ep,h.jn.noted,fun i hi=>by show _∧i<2+8*L.length;rw[hl];exact h.jn.rng i hi,h.jn.q⟩,jb_pool h.jb hl ht,⟨h.inn.ck,h.inn.ph,h.inn.rd,hp,hl.trans h.inn.sl,h.inn.tb,h.inn.D4,h.inn.t,h.inn.d,h.inn.q,h.inn.b,h.inn.e,h.inn.id,h.inn.ver⟩,h.now⟩
theorem ST.ids {n:Nat}{a:AS}{v:Dev}{P:Pub}(h:ST n a v P):a.Ids:=fun k hk=>by
 rw[h.jn.q,List.append_nil] at hk
 obtain⟨p,hp,rfl⟩:=(h.jn.tab k).1 hk
 have h1:=h.jn.ids p hp.mem
 have h2:=h.inn.id.2
 exact⟨h1.1,Int.le_trans h1.2 h2⟩
theorem ST.link {n:Nat}{a:AS}{v:Dev}{P:Pub}(h:ST n a v P){l:Lk}(hl:l∈tLinks a.Tz):2≤l.line∧l.line≤300∧l.key.length≤16:=by
 obtain⟨p,hp,rfl⟩:=(h.jn.tab l).1 hl
 have h1:=tk_rng (h.jb.tk p hp.mem)
 have h2:=h.inn.pl.2
 have h3:=(h.jb.may p hp.mem).1
 refine⟨h1.1,by show p.1≤300;omega,?_⟩
 show p.2.key.length≤16
 unfold mayF at h3
 rw[if_neg (may_span (h.jb.may p hp.mem).1),if_neg (by rw[hp.map];decide),if_pos hp.map,Bool.and_eq_true] at h3
 exact(of_decide_eq_true h3.1).2.1
theorem next_mem {Tz:Tbl}{b:Int}{pos:List UInt8}{past:Bool}{l:Lk}(h:tNext Tz b pos past=some l):l∈tLinks Tz:=by
 have h1:=(List.mem_filter.1 (minL_mem h).1).1
 unfold bkL at h1
 split at h1
 ·cases hg:Tz[b.toNat]? with
  |none=>rw[hg] at h1;cases h1
  |some p=>
   rw[hg] at h1
   unfold tLinks
   exact List.mem_flatMap.2 ⟨p,List.mem_of_getElem? hg,by simpa using h1⟩
 ·cases h1
theorem FW.give {L:List Slb}{D:List Ce}{P:Pub}{f:Frm}{n:Nat}(h:FW L D P f n)(hp:plOk L)(hB:JB L D P):∀p∈P,Tk (giveF L f.line).1 p.1 p.2.cls:=fun p hpP=>
 give_tk hp h.tk (hB.tk p hpP) (h.un p hpP)
structure SP (n:Nat)(a:AS)(v:Dev)(P:Pub)(f:Frm)(a':AS)(v':Dev)(f':Frm)(Q:Pub):Prop where
 st:ST n a' v' (P++Q)
 fr:Fr1 a'.L v'.D (P++Q) f'
 q:Q=[]∨(f'.ph=6∧∃p,Q=[p]∧p.2.ep=a.ck.now)
 ck:CkS a.ck a'.ck
 lv:DvL v.D v'.D
theorem gb_st {n:Nat}{a:AS}{v:Dev}{P:Pub}{f:Frm}{k:Nat}(hS:ST n a v P)(hw:FW a.L v.D P f k){g:Frm}(hg:g.line=f.line):ST n (gbA a g) v P:=by
 unfold gbA
 rw[hg]
 exact hS.pl (giveF_len _ _) (giveF_ok hS.inn.pl) (hw.give hS.inn.pl hS.jb)
theorem step1 {n:Nat}{a:AS}{v:Dev}{P:Pub}{f:Frm}(hS:ST n a v P)(hF:Fr1 a.L v.D P f)(hp:f.ph=1):SP n a v P f (pFindA a f) v (pFindF a f) []:=by
 have hY:0≤(fnF a f).old.line∧(fnF a f).old.line≤1000:=by
  unfold fnF
  split
  ·rename_i h
   unfold fnHad at h
   rw[Bool.and_eq_true] at h
   obtain⟨l,hl⟩:=Option.isSome_iff_exists.1 h.1
   have h1:=hS.link (next_mem hl)
   show 0≤(fnY a f).line∧(fnY a f).line≤1000
   unfold fnY
   rw[hl]
   simp only[Option.getD_some]
   omega
  ·exact⟨by show(0:Int)≤0;omega,by show(0:Int)≤1000;omega⟩
 have hE:(fnF a f).c=f.c∧(fnF a f).line=f.line∧(fnF a f).cls=f.cls∧(fnF a f).g=f.g∧(fnF a f).bs=f.bs∧(fnF a f).pa=f.pa∧(fnF a f).an=f.an∧(fnF a f).ep=f.ep∧(fnF a f).pc=f.pc:=by
  unfold fnF;split<;>exact⟨rfl,rfl,rfl,rfl,rfl,rfl,rfl,rfl,rfl⟩
 obtain⟨e1,e2,e3,e4,e5,e6,e7,e8,e9⟩:=hE
 generalize hg:fnF a f=g at*
 have hk1:g.c.k≠1:=by rw[e1];rcases hF.k with h|h<;>omega
 have base:∀(L:List Slb) (D:List Ce) (m:Int) (ln:Int),(m=3∨m=6)→(-1≤ln∧ln≤1000)→Fr1 L D P {g with ph:=m,line:=ln}:=fun L D m ln hm hl=>
  ⟨by show g.c.k=2∨g.c.k=3;rw[e1];exact hF.k,by show g.c.key.length≤500∧g.c.val.length≤500;rw[e1];exact hF.kl,by show g.g=[]∧g.bs=[]∧g.pa=[]∧g.an.ps=[]∧g.an.hs=[];rw[e4,e5,e6,e7];exact hF.z,by show 0≤g.ep∧_;rw[e8];exact hF.ep,
   by show m=0∨m=1∨m=3∨m=4∨m=5∨m=6∨m=7;omega,by show 0≤g.pc∧_;rw[e9];exact hF.pc,hY,hl,fun h=>by(have h:m=0:=h);omega,fun h=>by(rcases h with h|h;(have h:m=1:=h.1;omega);(have h:m=5:=h;omega)),fun h=>by(have h:m=4:=h);omega⟩
 unfold pFindA pFindF
 rw[hg]
 by_cases hgo:fnGo a f=true
 ·rw[if_pos hgo,if_pos hgo]
  refine⟨by rw[List.append_nil];exact hS,?_,.inl rfl,.refl _,.refl _⟩
  rw[List.append_nil]
  exact⟨hF.k,hF.kl,hF.z,hF.ep,hF.ph,hF.pc,hF.ol,hF.ln,hF.w0,fun h=>by
   obtain⟨a1,a2,a3,a4⟩:=hF.w h
   exact⟨a1,a2,a3,a4⟩,fun h=>absurd h (by show ¬f.ph=4;omega)⟩
 ·rw[if_neg hgo,if_neg hgo]
  unfold pFindG
  rw[if_neg hk1]
  by_cases hno:g.c.k=3∧fnHad a f=false
  ·rw[if_pos hno]
   by_cases hl:0≤f.line
   ·have hw:=hF.w (.inl ⟨hp,hl⟩)
    have hb:pFindB f (fnHad a f)=true:=by
     unfold pFindB
     rw[e1] at hno hk1
     simp[hno.1,hno.2,hl]
    rw[if_pos hb,if_pos om_]
    exact⟨by rw[List.append_nil];exact gb_st hS hw e2,by rw[List.append_nil];exact base _ _ 6 (-1) (.inr rfl) om_,.inl rfl,.refl _,.refl _⟩
   ·have hb:¬pFindB f (fnHad a f)=true:=by
     unfold pFindB
     simp[hl]
    rw[if_neg hb,if_neg om_]
    exact⟨by rw[List.append_nil];exact hS,by rw[List.append_nil];exact base _ _ 6 g.line (.inr rfl) (by rw[e2];exact hF.ln),.inl rfl,.refl _,.refl _⟩
  ·have hb:¬pFindB f (fnHad a f)=true:=by
    unfold pFindB
    rw[e1] at hno
    intro h
    rw[Bool.and_eq_true,Bool.and_eq_true,Bool.and_eq_true] at h
    exact hno ⟨of_decide_eq_true h.1.2.1,by simpa using h.1.2.2⟩
   rw[if_neg hno,if_neg hb]
   by_cases hl:g.line<0
   ·rw[if_pos hl]
    exact⟨by rw[List.append_nil];exact hS,by rw[List.append_nil];exact base _ _ 3 g.line (.inl rfl) (by rw[e2];exact hF.ln),.inl rfl,.refl _,.refl _⟩
   ·rw[if_neg hl]
    have hw:=hF.w (.inl ⟨hp,by omega⟩)
    have b:=base a.L v.D 6 g.line (.inr rfl) (by rw[e2];exact hF.ln)
    refine⟨by rw[List.append_nil];exact hS,?_,.inl rfl,.refl _,.refl _⟩
    rw[List.append_nil]
    refine⟨b.k,b.kl,b.z,b.ep,by show(5:Int)=0∨(5:Int)=1∨(5:Int)=3∨(5:Int)=4∨(5:Int)=5∨_;omega,b.pc,b.ol,b.ln,fun h=>by(have h:(5:Int)=0:=h);omega,fun _=>?_,fun h=>by(have h:(5:Int)=4:=h);omega⟩
    obtain⟨a1,a2,a3,a4⟩:=hw
    exact⟨by show Tk _ g.line g.cls;rw[e2,e3];exact a1,by show ∀p∈P,p.1≠g.line;rw[e2];exact a2,by show g.cls=needF (sizeK g.c);rw[e3,e1];exact a3,by show ∀j:Nat,1≤j→j<spanF g.cls→nowL v.D (g.line+(j:Nat))=wrL g.c (j:Nat);rw[e2,e3,e1];exact a4⟩
theorem SP.nil {n:Nat}{a:AS}{v:Dev}{P:Pub}{f:Frm}{a':AS}{v':Dev}{f':Frm}(st:ST n a' v' P)(fr:Fr1 a'.L v'.D P f')(ck:CkS a.ck a'.ck)(lv:DvL v.D v'.D):SP n a v P f a' v' f' []:=
 ⟨by rw[List.append_nil];exact st,by rw[List.append_nil];exact fr,.inl rfl,ck,lv⟩
theorem step0 {n:Nat}{a:AS}{v:Dev}{P:Pub}{f:Frm}(hS:ST n a v P)(hF:Fr1 a.L v.D P f)(hp:f.ph=0)(t:Int):SP n a v P f (enterA a t f) v (pEnterF a t f) []:=by
 have hl:=hF.w0 hp
 have hnow:=hS.now
 have hA:ST n (enterA a t f) v P∧(enterA a t f).L=a.L∧CkS a.ck (enterA a t f).ck:=by
  unfold enterA
  split
  ·exact⟨hS.rd (rEnter_len _ _),rfl,.refl _⟩
  ·exact⟨hS,rfl,.refl _⟩
 refine SP.nil hA.1 ?_ hA.2.2 (.refl _)
 rw[hA.2.1]
 unfold pEnterF enterF
 split
 ·exact⟨hF.k,hF.kl,hF.z,by show 0≤a.ck.now∧a.ck.now≤100;omega,by show(1:Int)=0∨(1:Int)=1∨_;omega,hF.pc,hF.ol,hF.ln,fun h=>by(have h:(1:Int)=0:=h);omega,fun h=>by
   rcases h with h|h
   ·have h2:0≤f.line:=h.2;omega
   ·have h2:(1:Int)=5:=h;omega,fun h=>by(have h:(1:Int)=4:=h);omega⟩
 ·exact⟨hF.k,hF.kl,hF.z,hF.ep,by show(7:Int)=0∨(7:Int)=1∨(7:Int)=3∨(7:Int)=4∨(7:Int)=5∨(7:Int)=6∨(7:Int)=7;omega,hF.pc,hF.ol,hF.ln,fun h=>by(have h:(7:Int)=0:=h);omega,fun h=>by
   rcases h with h|h
   ·have h2:(7:Int)=1:=h.1;omega
   ·have h2:(7:Int)=5:=h;omega,fun h=>by(have h:(7:Int)=4:=h);omega⟩
theorem fr_end {L L':List Slb}{D D':List Ce}{P P':Pub}{f:Frm}(hF:Fr1 L D P f){m:Int}(hm:m=6∨m=7)(ln cls:Int)(hl: -1≤ln∧ln≤1000)(an:Ans)(ha:an.ps=[]∧an.hs=[]):Fr1 L' D' P' {f with line:=ln,cls:=cls,an:=an,ph:=m}:=
 ⟨hF.k,hF.kl,⟨hF.z.1,hF.z.2.1,hF.z.2.2.1,ha⟩,hF.ep,by show m=0∨m=1∨m=3∨m=4∨m=5∨m=6∨m=7;omega,hF.pc,hF.ol,hl,fun h=>by(have h:m=0:=h);omega,fun h=>by
  rcases h with h|h
  ·have h2:m=1:=h.1;omega
  ·have h2:m=5:=h;omega,fun h=>by(have h:m=4:=h);omega⟩
theorem step3 {n:Nat}{a:AS}{v:Dev}{P:Pub}{f:Frm}(hS:ST n a v P)(hF:Fr1 a.L v.D P f):SP n a v P f (takeA a (sizeK f.c)) v (pTakeF a f) []:=by
 have hpl:=hS.inn.pl
 have h32:=hpl.2
 obtain⟨L',ln,er,hT⟩:∃L' ln er,ptakeF a.L (needF (sizeK f.c))=(L',ln,er):=⟨_,_,_,rfl⟩
 have hA:takeA a (sizeK f.c)={a with L:=L'}:=by unfold takeA;rw[hT]
 have hE:takeE a (sizeK f.c)=er:=by unfold takeE;rw[hT]
 have hLn:takeLn a (sizeK f.c)=ln:=by unfold takeLn;rw[hT]
 rw[hA]
 unfold pTakeF
 rw[hE,hLn]
 by_cases h0:er=0
 ·subst h0
  rw[if_pos rfl]
  have hlen:L'.length=a.L.length:=by have:=ptakeF_len a.L (needF (sizeK f.c));rw[hT] at this;exact this
  have hok:plOk L':=by have:=ptakeF_ok (c:=needF (sizeK f.c)) hpl;rw[hT] at this;exact this
  obtain⟨h1,h2⟩:=take_tk hpl hT
  have hr:=tk_rng h1
  have hS2:=hS.pl hlen hok (fun p hp=>(h2 p.1 p.2.cls (hS.jb.tk p hp)).1)
  refine SP.nil hS2 ?_ (.refl _) (.refl _)
  refine⟨hF.k,hF.kl,hF.z,hF.ep,by show(4:Int)=0∨(4:Int)=1∨(4:Int)=3∨(4:Int)=4∨_;omega,by show(0:Int)≤0∧(0:Int)≤8;omega,hF.ol,by show -1≤ln∧ln≤1000;omega,fun h=>by(have h:(4:Int)=0:=h);omega,fun h=>by
   rcases h with h|h
   ·have h2:(4:Int)=1:=h.1;omega
   ·have h2:(4:Int)=5:=h;omega,fun _=>⟨by show(0:Int)<(spanF (takeC (sizeK f.c)):Nat);unfold takeC;omega,h1,fun p hp e=>?_,rfl,fun j a1 a2=>?_⟩⟩
  ·have h3:=(h2 p.1 p.2.cls (hS.jb.tk p hp)).2
   have h4:=(tk_rng (hS.jb.tk p hp)).2.2
   have e:p.1=ln:=e
   omega
  ·have a2:j<(0:Int).toNat:=a2
   simp at a2
 ·rw[if_neg h0]
  have hL:L'=a.L:=by
   unfold ptakeF at hT
   split at hT
   ·injection hT with h _;exact h.symm
   ·split at hT
    ·injection hT with h _;exact h.symm
    ·split at hT
     ·injection hT with h _;exact h.symm
     ·injection hT with _ h;injection h with _ h;exact absurd h.symm h0
  subst hL
  exact SP.nil hS (fr_end hF (.inl rfl) f.line _ hF.ln _ ⟨hF.z.2.2.2.1,hF.z.2.2.2.2⟩) (.refl _) (.refl _)
theorem step4 {n:Nat}{a:AS}{v:Dev}{P:Pub}{f:Frm}(hS:ST n a v P)(hF:Fr1 a.L v.D P f)(hp:f.ph=4):SP n a v P f a (pWriteV v f) (pWriteF f) []:=by
 obtain⟨hpc,hw⟩:=hF.w4 hp
 have hpc0:=hF.pc.1
 have hr:=tk_rng hw.tk
 have hfit:=hS.jb.fit
 have hsp8:spanF f.cls≤8:=(capN_span hr.2.2).2.2
 obtain⟨bs,hV,h64,hcalm,hwr⟩:∃bs,(pWriteV v f).D=stD v.D (f.line+f.pc) 0 bs∧bs.length=64∧calmH bs∧(f.pc≠0→bs=wrL f.c f.pc):=by
  unfold pWriteV writeD
  by_cases h0:f.pc=0
  ·rw[if_pos h0]
   exact⟨draftL f.cls,by rw[h0,Int.add_zero];rfl,draft_len hr.2.2,calm_draft hr.2.2,fun h=>absurd h0 h⟩
  ·rw[if_neg h0]
   exact⟨wrL f.c f.pc,rfl,wrL_len _ _,calm_two (wr_two _ _),fun _=>rfl⟩
 have hin:0≤f.line+f.pc∧f.line+f.pc<v.D.length:=by omega
 have hB:JB a.L (pWriteV v f).D P:=by
  rw[hV]
  refine jb_calm hS.jb h64 hcalm hin fun p hpP=>?_
  have h1:=tk_apart (hS.jb.tk p hpP) hw.tk (hw.un p hpP)
  omega
 have hS2:ST n a (pWriteV v f) P:=⟨hS.jn,hB,hS.inn,hS.now⟩
 have hst:=st_now (D:=v.D) h64 hin
 have hW:FW a.L (pWriteV v f).D P f (f.pc.toNat+1):=⟨hw.tk,hw.un,hw.cl,fun j h1 h2=>by
  rw[hV,hst]
  by_cases e:(j:Int)=f.pc
  ·rw[if_pos om_,hwr om_,e]
  ·rw[if_neg om_]
   exact hw.dt j h1 om_⟩
 refine SP.nil hS2 ?_ (.refl _) (by rw[hV];exact DvL.st _ h64 om_)
 unfold pWriteF
 by_cases he:f.pc+1=(spanF f.cls:Nat)
 ·rw[if_pos he]
  refine⟨hF.k,hF.kl,hF.z,hF.ep,by show(5:Int)=0∨(5:Int)=1∨(5:Int)=3∨(5:Int)=4∨(5:Int)=5∨_;omega,by show(0:Int)≤0∧(0:Int)≤8;omega,hF.ol,hF.ln,fun h=>by(have h:(5:Int)=0:=h);omega,fun _=>?_,fun h=>by(have h:(5:Int)=4:=h);omega⟩
  exact⟨hW.tk,hW.un,hW.cl,fun j h1 h2=>hW.dt j h1 (by(have h2:j<spanF f.cls:=h2);omega)⟩
 ·rw[if_neg he]
  refine⟨hF.k,hF.kl,hF.z,hF.ep,hF.ph,by show 0≤f.pc+1∧f.pc+1≤8;omega,hF.ol,hF.ln,hF.w0,fun h=>by
   rcases h with h|h
   ·have h2:f.ph=1:=h.1;omega
   ·have h2:f.ph=5:=h;omega,fun _=>⟨by show f.pc+1<(spanF f.cls:Nat);omega,?_⟩⟩
  exact⟨hW.tk,hW.un,hW.cl,fun j h1 h2=>hW.dt j h1 (by(have h2:j<(f.pc+1).toNat:=h2);omega)⟩
theorem step6 {n:Nat}{a:AS}{v:Dev}{P:Pub}{f:Frm}(hS:ST n a v P)(hF:Fr1 a.L v.D P f)(t:Int):SP n a v P f (leaveA a t) v (leaveF f) []:=
 SP.nil (hS.rd (rLeave_len _ _)) (fr_end hF (.inr rfl) f.line f.cls hF.ln f.an ⟨hF.z.2.2.2.1,hF.z.2.2.2.2⟩) (.refl _) (.refl _)
theorem need_put {c:Kal}(hk:c.k=2)(hl:c.key.length≤500∧c.val.length≤500):sizeK c=(c.key.length:Int)+c.val.length∧bytesK c=c.key++c.val:=by
 unfold sizeK bytesK
 rw[if_pos hk,if_pos hk]
 exact⟨rfl,rfl⟩
theorem need_del {c:Kal}(hk:c.k=3):sizeK c=0∧bytesK c=[]:=by
 unfold sizeK bytesK
 rw[if_neg om_,if_neg om_,if_neg om_,if_neg om_]
 exact⟨rfl,rfl⟩
theorem step5 {n:Nat}{a:AS}{v:Dev}{P:Pub}{f:Frm}(hS:ST n a v P)(hF:Fr1 a.L v.D P f)(hp:f.ph=5)(t:Int)(hPn:P.length≤800):∃Q,SP n a v P f (pPubA a v t f).1 (pPubA a v t f).2 (pPubF a t f) Q:=by
 have hw:=hF.w (.inr hp)
 have hr:=tk_rng hw.tk
 unfold pPubA pPubF
 by_cases h0:pPubE a t f=0
 ·rw[if_pos h0,if_pos h0]
  have h0':pubE a t f.ep [pCh f]=0:=h0
  have hend:∀{L:List Slb} {D:List Ce} {P':Pub},Fr1 L D P' {f with an:={f.an with fd:=chOut (pCh f),ep:=f.ep},line:= -1,ph:=6}:=fun {L D P'}=>fr_end hF (.inl rfl) (-1) f.cls om_ _ ⟨hF.z.2.2.2.1,hF.z.2.2.2.2⟩
  by_cases hn:needB (pCh f)=true
  ·have hc3:(pCh f).kind=3→(pCh f).cls=0:=fun h=>by
    show f.cls=0
    rw[hw.cl,(need_del h).1];rfl
   have hb:bytesK f.c=(chB a (pCh f) f.ep).key++(chB a (pCh f) f.ep).val:=by
    unfold chB
    rcases hF.k with h|h
    ·rw[laid_put (show(pCh f).kind=2 from h),(need_put h hF.kl).2];rfl
    ·rw[laid_del (show(pCh f).kind=3 from h),(need_del h).2];rfl
   obtain⟨j1,j2,j3⟩:=pub_js (v:=v) hS.jn hS.jb hS.inn hS.ids hF.k h0' hn hw.tk hc3 hw.un hb hw.dt
   rw[pub_one h0' hn]
   have hz:=pub_ok (v:=v) hS.inn hS.ids h0' (k:=0) (y:=pCh f) rfl hn
   have hI:(chA t f.ep a (pCh f) 0).In 2 n (P.length+1) (P.length+1):=chA_in hS.inn t f.ep 0 (pCh f) hz.2.2.1 hz.2.2.2
   refine⟨[((pCh f).line,chB a (pCh f) f.ep)],⟨j1,j2,by rw[List.length_append];exact hI,?_⟩,hend,.inr ⟨rfl,_,rfl,j3⟩,kNotes_s _ _ _ _,DvL.st _ ?_ hr.1⟩
   ·show 0≤(kNotes a.ck t (pCh f).line (spanF (chB a (pCh f) f.ep).cls)).now∧(kNotes a.ck t (pCh f).line (spanF (chB a (pCh f) f.ep).cls)).now≤100
    rw[(kNotes_s _ _ _ _).now];exact hS.now
   ·exact enc_take hz.1
  ·have hk3:pubA t f.ep a v [pCh f]=(a,v):=by
    unfold pubA pubZ
    rw[if_pos h0']
    unfold pubGo pubGo
    rw[if_neg hn]
   rw[hk3]
   exact⟨[],SP.nil hS hend (.refl _) (.refl _)⟩
 ·rw[if_neg h0,if_neg h0]
  by_cases h8:pPubE a t f=8
  ·rw[if_pos h8,if_pos h8]
   have hnow:=hS.now
   refine⟨[],SP.nil hS ?_ (.refl _) (.refl _)⟩
   refine⟨hF.k,hF.kl,hF.z,by show 0≤a.ck.now∧a.ck.now≤100;omega,by show(1:Int)=0∨(1:Int)=1∨_;omega,hF.pc,by show(0:Int)≤0∧(0:Int)≤1000;omega,hF.ln,fun h=>by(have h:(1:Int)=0:=h);omega,fun _=>⟨hw.tk,hw.un,hw.cl,hw.dt⟩,fun h=>by(have h:(1:Int)=4:=h);omega⟩
  ·rw[if_neg h8,if_neg h8]
   exact⟨[],SP.nil (gb_st hS hw rfl) (fr_end hF (.inl rfl) (-1) f.cls om_ _ ⟨hF.z.2.2.2.1,hF.z.2.2.2.2⟩) (by exact .refl _) (.refl _)⟩
theorem point_js {n:Nat}{a:AS}{v:Dev}{P:Pub}{f:Frm}(hS:ST n a v P)(hF:Fr1 a.L v.D P f)(t:Int)(hPn:P.length≤800):∃Q,SP n a v P f (pointA a v t f).1 (pointA a v t f).2.1 (pointA a v t f).2.2 Q:=by
 unfold pointA
 have hk:=hF.k
 have hph:=hF.ph
 by_cases hb:pBad f=true
 ·rw[if_pos hb]
  exact⟨[],SP.nil hS hF (.refl _) (.refl _)⟩
 ·rw[if_neg hb]
  rcases hph with h|h|h|h|h|h|h
  ·rw[h];exact⟨[],step0 hS hF h t⟩
  ·rw[h];exact⟨[],step1 hS hF h⟩
  ·rw[h];exact⟨[],step3 hS hF⟩
  ·rw[h];exact⟨[],step4 hS hF h⟩
  ·rw[h];exact step5 hS hF h t hPn
  ·rw[h];exact⟨[],step6 hS hF t⟩
  ·exfalso;apply hb;unfold pBad;rw[h];simp
def itP (t:Int):Nat→AS×Dev×Frm→AS×Dev×Frm
 |0,z=>z
 |j+1,z=>pointA (itP t j z).1 (itP t j z).2.1 t (itP t j z).2.2
structure RJ (n:Nat)(a:AS)(v:Dev)(P:Pub)(z:AS×Dev×Frm)(Q:Pub):Prop where
 st:ST n z.1 z.2.1 (P++Q)
 fr:Fr1 z.1.L z.2.1.D (P++Q) z.2.2
 q:Q=[]∨((z.2.2.ph=6∨z.2.2.ph=7)∧∃p,Q=[p]∧p.2.ep=a.ck.now)
 ck:CkS a.ck z.1.ck
 lv:DvL v.D z.2.1.D
theorem end_ph {a:AS}{v:Dev}{t:Int}{f:Frm}(h:f.ph=6∨f.ph=7)(hk:f.c.k=2∨f.c.k=3):(pointA a v t f).2.2.ph=7:=by
 unfold pointA
 rcases h with h|h
 ·rw[if_neg (by unfold pBad;rcases hk with hk|hk<;>simp[h,hk]),h];rfl
 ·rw[if_pos (by unfold pBad;simp[h])];exact h
theorem run_js {n:Nat}{a:AS}{v:Dev}{P:Pub}{f:Frm}(hS:ST n a v P)(hF:Fr1 a.L v.D P f)(t:Int)(hPn:P.length≤700):∀j,∃Q,RJ n a v P (itP t j (a,v,f)) Q
 |0=>⟨[],by rw[List.append_nil];exact hS,by rw[List.append_nil];exact hF,.inl rfl,.refl _,.refl _⟩
 |j+1=>by
  obtain⟨Q,h⟩:=run_js hS hF t hPn j
  have hQ:Q.length≤1:=by
   rcases h.q with e|⟨_,p,e,_⟩<;>rw[e]<;>simp
  obtain⟨Q2,h2⟩:=point_js h.st h.fr t (by rw[List.length_append];omega)
  show ∃Q,RJ n a v P (pointA (itP t j (a,v,f)).1 (itP t j (a,v,f)).2.1 t (itP t j (a,v,f)).2.2) Q
  have hc:=h.ck.trans h2.ck
  have hl:=h.lv.trans h2.lv
  rcases h.q with e|⟨he,p,e,hp⟩
  ·subst e
   refine⟨Q2,?_,?_,?_,hc,hl⟩
   ·have:=h2.st;rwa [List.append_nil] at this
   ·have:=h2.fr;rwa [List.append_nil] at this
   ·rcases h2.q with e2|⟨e2,p,e3,hp⟩
    ·exact .inl e2
    ·exact .inr ⟨.inl e2,p,e3,hp.trans h.ck.now⟩
  ·have h7:=end_ph (a:=(itP t j (a,v,f)).1) (v:=(itP t j (a,v,f)).2.1) (t:=t) he h.fr.k
   have e2:Q2=[]:=by
    rcases h2.q with e2|⟨e2,_⟩
    ·exact e2
    ·omega
   subst e2
   refine⟨Q,?_,?_,.inr ⟨.inr h7,p,e,hp⟩,hc,hl⟩
   ·have:=h2.st;rwa [List.append_nil] at this
   ·have:=h2.fr;rwa [List.append_nil] at this
def begF1 (c:Kal):Frm:={fr0 with c:=c,line:= -1}
def runA (t:Int)(a:AS)(v:Dev)(c:Kal):AS×Dev:=((itP t 400 (a,v,begF1 c)).1,(itP t 400 (a,v,begF1 c)).2.1)
def lightB (c:Kal):Bool:=decide ((c.key.length:Int)+c.val.length+c.to.length≤500)&&(decide (c.k=2)||decide (c.k=3))
theorem fr_beg {L:List Slb}{D:List Ce}{P:Pub}{c:Kal}(h:lightB c=true):Fr1 L D P (begF1 c):=by
 unfold lightB at h
 rw[Bool.and_eq_true,Bool.or_eq_true] at h
 obtain⟨h1,h3⟩:=h
 have h1:=of_decide_eq_true h1
 refine⟨?_,⟨by show c.key.length≤500;omega,by show c.val.length≤500;omega⟩,⟨rfl,rfl,rfl,rfl,rfl⟩,by show(0:Int)≤0∧(0:Int)≤100;omega,.inl rfl,by show(0:Int)≤0∧(0:Int)≤8;omega,by show(0:Int)≤0∧(0:Int)≤1000;omega,by show(-1:Int)≤ -1∧(-1:Int)≤1000;omega,fun _=>by show(-1:Int)<0;omega,fun h=>?_,fun h=>?_⟩
 ·rcases h3 with h3|h3
  ·exact .inl (of_decide_eq_true h3)
  ·exact .inr (of_decide_eq_true h3)
 ·rcases h with h|h
  ·have h:(0:Int)=1:=h.1;omega
  ·have h:(0:Int)=5:=h;omega
 ·have h:(0:Int)=4:=h;omega
structure SJ (n:Nat)(a:AS)(v:Dev)(P:Pub)(z:AS×Dev)(Q:Pub):Prop where
 st:ST n z.1 z.2 (P++Q)
 ep:∀q∈Q,q.2.ep=a.ck.now
 ck:CkS a.ck z.1.ck
 lv:DvL v.D z.2.D
theorem SJ.refl {n:Nat}{a:AS}{v:Dev}{P:Pub}(h:ST n a v P):SJ n a v P (a,v) []:=⟨by rw[List.append_nil];exact h,(fun q hq=>by cases hq),.refl _,.refl _⟩
theorem run_sj {n:Nat}{a:AS}{v:Dev}{P:Pub}(hS:ST n a v P)(t:Int)(hPn:P.length≤700){c:Kal}(hc:lightB c=true):∃Q,Q.length≤1∧SJ n a v P (runA t a v c) Q:=by
 obtain⟨Q,h⟩:=run_js hS (fr_beg hc) t hPn 400
 refine⟨Q,?_,h.st,fun q hq=>?_,h.ck,h.lv⟩
 ·rcases h.q with e|⟨_,p,e,_⟩<;>rw[e]<;>simp
 ·rcases h.q with e|⟨_,p,e,hp⟩
  ·rw[e] at hq;cases hq
  ·rw[e] at hq;rw[List.mem_singleton.1 hq];exact hp
def someF (z:AS×Dev)(c:Kal):AS×Dev:=if lightB c=true then runA 0 z.1 z.2 c else z
theorem some_sj {n:Nat}{a:AS}{v:Dev}{P:Pub}(hS:ST n a v P):∀{l:List Kal},P.length+l.length≤700→∃Q,Q.length≤l.length∧SJ n a v P (l.foldl someF (a,v)) Q:=by
 intro l
 suffices H:∀(l:List Kal) (z:AS×Dev) (Q:Pub),SJ n a v P z Q→P.length+Q.length+l.length≤700→∃Q',Q'.length≤Q.length+l.length∧SJ n a v P (l.foldl someF z) Q' by
  intro hl
  obtain⟨Q,h1,h2⟩:=H l (a,v) [] (.refl hS) (by simpa using hl)
  exact⟨Q,by simpa using h1,h2⟩
 intro l
 induction l with
 |nil=>intro z Q h _;exact⟨Q,by simp,h⟩
 |cons c l ih=>
  intro z Q h hl
  rw[List.length_cons] at hl
  rw[List.foldl_cons]
  by_cases hc:lightB c=true
  ·obtain⟨Q1,h1,h2⟩:=run_sj h.st 0 (by rw[List.length_append];omega) hc
   have e:someF z c=runA 0 z.1 z.2 c:=if_pos hc
   rw[e]
   obtain⟨Q',h3,h4⟩:=ih (runA 0 z.1 z.2 c) (Q++Q1) ⟨by rw[← List.append_assoc];exact h2.st,fun q hq=>by
    rcases List.mem_append.1 hq with hq|hq
    ·exact h.ep q hq
    ·exact(h2.ep q hq).trans h.ck.now,h.ck.trans h2.ck,h.lv.trans h2.lv⟩ (by rw[List.length_append];omega)
   exact⟨Q',by rw[List.length_append] at h3;rw[List.length_cons];omega,h4⟩
  ·have e:someF z c=z:=if_neg hc
   rw[e]
   obtain⟨Q',h3,h4⟩:=ih z Q h om_
   exact⟨Q',by rw[List.length_cons];omega,h4⟩
end G
end Go.Proofs.YtjidffamcdcecaaGreat
namespace Go.Proofs.YtjidffamcdcecaaGreat
open Go Go.RowKit V
set_option linter.unusedVariables false
set_option maxRecDepth 100000
set_option maxHeartbeats 400000
namespace G
section
attribute [local irreducible] V.CW V.LW V.QW V.RW V.PQ V.Val V.Eff V.Qcall
open V (str byC ownV ownG ownS ownOk)
instance:Cal Tryz.prog 26:=⟨Tryz.call26⟩
abbrev pdvO (pb dv:Nat):Nat×Obj:=(pb,.cells [.pointer (some ⟨dv,0,none⟩)].toArray 63 (0,0))
abbrev dvcL (db:Nat)(dn st:Int):List Value:=[.pointer (some ⟨db,0,none⟩),.int .u32 dn,.int .i32 st,.int .u32 0]
abbrev dvcB (dv db:Nat)(dn st:Int):Nat×Obj:=(dv,.cells (dvcL db dn st).toArray 103 (0,0))
theorem fmt1_g (pb dv:Nat)(xd:DvR)(v:Dev)(hm:10≤v.D.length∧v.D.length≤258)(dn st:Int):Mo Tryz.prog 60 [.pointer (some ⟨pb,0,none⟩)] ([pdvO pb dv]::[dvcB dv xd.db dn st]::vS xd v) (fun _u:Unit=>True) (fun _=> .tuple #[]) (fun _=>[pdvO pb dv]::[dvcB dv xd.db dn st]::vS xd (fmtV v)):=by
 intro w hs
 refine Ca_ Tryz.func60 rfl Tryz.ntmps60 hs<|Rg<|Lv Ld<|Lv Nz<|Lv (Fa 0 35)<|Lv Ld<|Le (Cm_ (format_g xd v hm)) fun _ _=>Nl<|PQ.end0 rfl ?_
 exact fi_ () trivial
theorem slowF_g (pb dv:Nat)(xd:DvR)(v:Dev)(hm:10≤v.D.length∧v.D.length≤258):Mo Tryz.prog 85 [.pointer (some ⟨dv,1,none⟩),.func (.func 60) #[] #[.pointer (some ⟨pb,0,none⟩)]] ([pdvO pb dv]::[dvcB dv xd.db 0 0]::vS xd v) (fun _u:Unit=>True) (fun _=> .tuple #[]) (fun _=>[pdvO pb dv]::[dvcB dv xd.db 1 0]::vS xd (fmtV v)):=by
 intro w hs
 refine V.callsDf ([pdvO pb dv]::[dvcB dv xd.db 0 0]::vS xd v) Tryz.func85 rfl Tryz.ntmps85 (Nat.le_of_ble_eq_true rfl) hs<|pA_ 5 ?_
 refine Le (CM ([[dvcB dv xd.db 0 0]]) fun w hw hs=>lock_c dv 2 (dvcL xd.db 0 0) 103 w rfl hs) fun _ _=>pA_ 7 ?_
 refine LW.dfr rfl rfl<|CD.seq<|CD.region<|pA_ 3 ?_
 refine Le (CV fun w hw=>bLoad_c 0 dv 1 (dvcL xd.db 0 1) 103 w rfl hw.pk.sat) fun _ _=>Lv Nt<|Nl<|PQ.seqD<|CD.cond_t rfl<|CD.seq<|CD.region<|pA_ 3 ?_
 refine LW.dfr2 rfl rfl<|CD.region<|Lv Mv<|Le (Eff.callFM (f:=60) (caps:=[.pointer (some ⟨pb,0,none⟩)]) ([pdvO pb dv]::[dvcB dv xd.db 0 1]::vS xd v) pk_ rfl rfl Tryz.call60 (fun w hw hs=>fmt1_g pb dv xd v hm 0 1 w hs)) fun _ _=>Nl<|PQ.endD fun ac w' ha hw=>?_
 skip
 refine Leaves.call (ss:=[[dvcB dv xd.db 0 1]]) hw pk_ Tryz.call113 (fun hs=>sto_d _ dv 1 (dvcL xd.db 0 1) 103 w' rfl hs) fun _ w' _ hw=>?_
 skip
 refine Leaves.call (ss:=[[dvcB dv xd.db 1 1]]) hw pk_ Tryz.call112 (fun hs=>unl_d dv 2 (dvcL xd.db 1 1) 103 w' rfl hs) fun _ w' _ hw=>?_
 skip
 exact Leaves.nil0 rfl ⟨(),trivial,rfl,hw.pick pk_⟩
theorem doF_g (pb dv:Nat)(xd:DvR)(v:Dev)(hm:10≤v.D.length∧v.D.length≤258):Mo Tryz.prog 59 [.pointer (some ⟨dv,1,none⟩),.func (.func 60) #[] #[.pointer (some ⟨pb,0,none⟩)]] ([pdvO pb dv]::[dvcB dv xd.db 0 0]::vS xd v) (fun _u:Unit=>True) (fun _=> .tuple #[]) (fun _=>[pdvO pb dv]::[dvcB dv xd.db 1 0]::vS xd (fmtV v)):=by
 intro w hs
 refine Ca_ Tryz.func59 rfl Tryz.ntmps59 hs<|pA_ 5 ?_
 refine Le (CV fun w hw=>bLoad_c 0 dv 1 (dvcL xd.db 0 0) 103 w rfl hw.pk.sat) fun _ _=>pA_ 7 ?_
 refine Le (Cm_ (slowF_g pb dv xd v hm)) fun _ _=>Nl<|PQ.end0 rfl ?_
 exact fi_ () trivial
theorem dfmt_g (dv:Nat)(xd:DvR)(v:Dev)(hm:10≤v.D.length∧v.D.length≤258):Mo Tryz.prog 26 [.pointer (some ⟨dv,0,none⟩)] ([dvcB dv xd.db 0 0]::vS xd v) (fun _u:Unit=>True) (fun _=> .tuple #[]) (fun _=>[dvcB dv xd.db 1 0]::vS xd (fmtV v)):=by
 intro w hs
 refine Ca_ Tryz.func26 rfl Tryz.ntmps26 hs<|Sq<|Rg<|Le XS fun b1 _=>pA_ 3 ?_
 refine Lv Ld<|Lv Nz<|Lv (Fa 1 101)<|Lv Mf<|Le (Cm_ (doF_g b1 dv xd v hm)) fun _ _=>Nl<|PQ.end0 rfl ?_
 exact fi_ () trivial
def newV (n:Nat):Dev:=⟨List.replicate n ce0,ct0⟩
theorem anew_g (n th:Nat)(hn:10≤n∧n≤258)(h1:1≤th)(h4:th≤4):Mz Tryz.prog 5 [.int .i64 (n:Nat),.int .i64 (th:Nat)] (fun y:ArR×DvR=>y.1.ms.length=8) (fun y=> .tuple #[.pointer (some ⟨y.1.a,0,none⟩),.int .i64 0]) (fun y=>arS y.1 ({ar0 th n 0 with dn:=1}) y.2.db++vS y.2 (fmtV (newV n))):=by
 intro w
 refine Cb_ Tryz.func5 rfl Tryz.ntmps5<|pA_ 9 ?_
 refine Le (CM [] fun w hw hs0=>newDev_g n om_ om_ w) fun p _=>pA_ 21 ?_
 refine Le (Cm_ (made_g p (List.replicate n ce0) ct0 (by rw[List.length_replicate];omega) th h1 h4 0 om_)) fun x hx=>?_
 rw[List.length_replicate]
 refine pA_ 22 ?_
 refine Lv Ld<|Le (Cm_ (dfmt_g x.dv p (newV n) (by show 10≤(List.replicate n ce0).length∧_;rw[show(newV n).D.length=n from List.length_replicate,List.length_replicate];omega))) fun _ _=>pA_ 11 ?_
 exact fi_ (x,p) hx
end
end G
end Go.Proofs.YtjidffamcdcecaaGreat
namespace Go.Proofs.YtjidffamcdcecaaGreat.V
open Go Go.RowKit
set_option linter.unusedVariables false
section
variable {P:Program}{n:Nat}{B:Base}{ks:Ks}{sg:Sg}
theorem PQ.retCTT {fn:Func}{R:Ending→World→Prop}{p u s:Nat}{t T:TypeId}{b:Nat}{fr:Nat×Nat}{l:List Value}{v x:Value}(hr:fn.results=#[.cell p t,.tmp u,.tmp s])(hp:look ks p=some (.pointer (some ⟨b,0,none⟩)))(hu:look ks u=some v)(hv:look ks s=some x)
 (hm:InS (b,.cells l.toArray T fr) sg)(hg:∀w,(isAgg t).run P w= .ok true w)(hs:∀w,(sizeOf t).run P w= .ok l.length w)(h:∀w,Hp B sg w→R (.returned (.tuple #[.agg l.toArray,v,x])) w):PQ n B (bodyPost P fn R) .ret ks sg:=
 PQ.ret_of (fun a w ha hw=>by
  have h1:(loadVar t ⟨b,0,none⟩).run P w= .ok (.agg l.toArray) w:=run_loadVar_many (P:=P) (t:=t) (range_of_block (o:=0) (r:=[]) (hw.own _ hm.mem) (by simp:l.drop 0=l++[])) hg hs
  have h3:a.tmps[p]?.getD undef= .pointer (some ⟨b,0,none⟩):=by rw[ha.at_ _ _ hp];rfl
  have h4:a.tmps[u]?.getD undef=v:=by rw[ha.at_ _ _ hu];rfl
  have h5:a.tmps[s]?.getD undef=x:=by rw[ha.at_ _ _ hv];rfl
  simp only[results,hr]
  simp[Result.andThen,asAddr,h3,h4,h5,h1]) h
end
end Go.Proofs.YtjidffamcdcecaaGreat.V
namespace Go.Proofs.YtjidffamcdcecaaGreat
open Go Go.RowKit V
set_option linter.unusedVariables false
set_option maxRecDepth 100000
set_option maxHeartbeats 1000000
namespace G
section
attribute [local irreducible] V.CW V.LW V.QW V.RW V.PQ V.Val V.Eff V.Qcall
open V (str byC ownV ownG ownS ownOk)
theorem places83:∀w,((Array.mapM (fun(f:Field)=>do pure (f.offset,← sizeOf f.type)) (Tryz.prog.fieldsOf 83):Sem (Array (Nat×Nat)))).run Tryz.prog w= .ok [(0,1),(1,1),(2,1),(3,1),(4,1),(5,1)].toArray w:=by
 intro w;kernel_rfl
theorem places159:∀w,((Array.mapM (fun(f:Field)=>do pure (f.offset,← sizeOf f.type)) (Tryz.prog.fieldsOf 159):Sem (Array (Nat×Nat)))).run Tryz.prog w= .ok [(0,5),(5,1),(6,1),(7,1),(8,1),(9,1),(10,1),(11,5),(16,1),(17,1),(18,1),(19,1),(20,1),(21,1),(22,6)].toArray w:=by
 intro w;kernel_rfl
instance:Plc Tryz.prog 83 (fOf Tryz.underlying83) (lOf (P:=Tryz.prog) places83):=⟨places83,Tryz.underlying83⟩
instance:Plc Tryz.prog 159 (fOf Tryz.underlying159) (lOf (P:=Tryz.prog) places159):=⟨places159,Tryz.underlying159⟩
instance:Cal Tryz.prog 27:=⟨Tryz.call27⟩
instance:Cal Tryz.prog 28:=⟨Tryz.call28⟩
instance:Cal Tryz.prog 61:=⟨Tryz.call61⟩
instance:Cal Tryz.prog 62:=⟨Tryz.call62⟩
def begW (c:Kal)(g:Value):List Value:=klC c g++([.int .i64 0,.int .u64 0,str [],.bool false,.int .i64 0,.bool false]++(lkC lk0++([.int .i64 (-1),.int .i64 0,.int .i64 0,.slice none 0 0,.int .i64 0,.slice none 0 0]++anC an0 none none)))
theorem begin1_g (c:Kal):Mz Tryz.prog 61 [.agg (klC c (.slice none 0 0)).toArray] (fun o:V.OwnO=>ownOk 5 0 [] o) (fun o=> .agg (frC (begF1 c) {fo0 with go:=o}).toArray) (fun o=>[ownG 79 [] o]):=by
 intro w
 refine Cb_ Tryz.func61 rfl Tryz.ntmps61<|Sq<|Rg<|Le XA fun b1 _=>Le AA fun b2 _=>Nl<|Ps<|Sq<|Rg<|Lv (Fa 4 22)<|Lv (Ld (v:= .slice none 0 0))<|Le (CM [] fun w hw hs=>cloneKz_c [] none 0 (by simp) w (.inl rfl)) fun o ho=>Lv (Fa 4 22)<|LeN (StS (h1:=V.ownV_one _ _)) fun _ _=>Nl<|Ps<|Sq<|Sq<|Rg<|Lv (Fa 4 22)<|Lv (Ld (v:=ownV 0 o))<|Lv (Val.lenOwn rfl Tryz.underlying22 ho)<|Lv Mv<|Nl<|Ps<|Bk<|CW.loopU 0<|Sq<|Rg<|Lv Cm<|Nl<|Ps<|Sq<|Cf<|Xt<|Te<|Te<|Bh<|Ps<|Sq<|Rg<|Lv (Lw (l:=klC c (ownV 0 o)))<|Lv (Bd (begW c (ownV 0 o)) (hf:=by kernel_rfl))<|LeN (StW (cs:=begW c (ownV 0 o)) (h1:=by simp only[begW,klC,anC,an0,lkC,List.cons_append,List.nil_append,List.all_cons,List.all_nil,V.ownV_one,oneS,oneI,oneB,Bool.and_true];rfl)) fun _ _=>Nl<|Ps<|Rt<|PQ.retC (l:=begW c (ownV 0 o)) rfl rfl in_ Tryz.isAgg159 (by exact Tryz.sizeOf159) ?_
 exact fi_ o ho
def wgtF (c:Kal):Int:=if 500<(c.key.length:Int)∨500<(c.val.length:Int)∨500<(c.to.length:Int) then 501 else min ((c.key.length:Int)+c.val.length+c.to.length) 501
theorem wgt_le (c:Kal):decide (wgtF c≤500)=decide ((c.key.length:Int)+c.val.length+c.to.length≤500):=by
 unfold wgtF
 split<;>(rw[decide_eq_decide];omega)
theorem fweight_g (c:Kal):Rz Tryz.prog 27 [.agg (klC c (.slice none 0 0)).toArray,.int .i64 500] (.int .i64 (wgtF c)):=by
 intro w
 refine Cb_ Tryz.func27 rfl Tryz.ntmps27<|Sq<|Rg<|Le XA fun b2 _=>pA_ 12 ?_
 refine Lv (Ld (v:=str c.key))<|pA_ 4 ?_
 refine LW.split (d:=13) rfl (fun h13=>?_) (fun h13=>?_)
 ·replace h13:=bT h13
  refine pA_ 33 ?_
  intro w' hw;exact⟨by rw[show wgtF c=501 from if_pos om_];rfl,hw.below⟩
 ·replace h13:=bF h13
  refine Lv (Fa 2 9)<|Lv (Ld (v:=str c.val))<|pA_ 5 ?_
  refine LW.split (d:=20) rfl (fun h20=>?_) (fun h20=>?_)
  ·replace h20:=bT h20
   refine pA_ 26 ?_
   intro w' hw;exact⟨by rw[show wgtF c=501 from if_pos om_];rfl,hw.below⟩
  ·replace h20:=bF h20
   refine Lv (Fa 3 9)<|Lv (Ld (v:=str c.to))<|pA_ 5 ?_
   refine LW.split (d:=27) rfl (fun h27=>?_) (fun h27=>?_)
   ·replace h27:=bT h27
    refine pA_ 19 ?_
    intro w' hw;exact⟨by rw[show wgtF c=501 from if_pos om_];rfl,hw.below⟩
   ·replace h27:=bF h27
    refine Lv (Fa 4 22)<|Lv (Ld (v:= .slice none 0 0))<|pA_ 12 ?_
    refine Lv (Ld (v:=str c.key))<|Lv LnS<|Lv (Fa 2 9)<|Lv (Ld (v:=str c.val))<|pA_ 3 ?_
    refine Lv (Ld (v:=str c.to))<|pA_ 12 ?_
    refine CW.loopU 0<|pA_ 5 ?_
    refine Lv (Ld (v:= .slice none 0 0))<|pA_ 20 ?_
    refine Lv (Val.minI rfl rfl)<|pA_ 5 ?_
    intro w' hw;exact⟨by congr 2;rw[show wgtF c=min ((c.key.length:Int)+c.val.length+c.to.length) 501 from if_neg om_];split<;>omega,hw.below⟩
theorem itP_stay {t:Int}{z:AS×Dev×Frm}{j:Nat}(h:(itP t j z).2.2.ph=7):∀m,j≤m→itP t m z=itP t j z:=by
 intro m hm
 induction m with
 |zero=>
  have:j=0:=by omega
  subst this;rfl
 |succ m ih=>
  by_cases e:j=m+1
  ·subst e;rfl
  ·have e1:=ih om_
   show pointA (itP t m z).1 (itP t m z).2.1 t (itP t m z).2.2=_
   rw[e1]
   unfold pointA
   rw[if_pos (by unfold pBad;rw[h];simp)]
theorem ST.sth {n:Nat}{a:AS}{v:Dev}{P:Pub}{f:Frm}(h:ST n a v P)(hF:Fr1 a.L v.D P f)(hP:P.length≤800):StH 2 n P.length P.length a f:=
 ⟨h.inn,h.ids,by omega,by omega,by omega,⟨hF.ep.1,by have:=hF.ep.2;omega⟩,fun l hl=>by have:=(h.link hl).2.2;omega,⟨by rw[hF.z.1];simp,⟨by have:=hF.kl.1;omega,by have:=hF.kl.2;omega⟩,by rw[hF.z.2.1];simp,⟨hF.pc.1,by have:=hF.pc.2;omega⟩,⟨by have:=hF.ol.1;omega,by have:=hF.ol.2;omega⟩,⟨by have:=hF.ln.1;omega,by have:=hF.ln.2;omega⟩⟩,⟨by rw[hF.z.1];simp,by rw[hF.z.2.1];simp,by rw[hF.z.2.2.1];simp,by rw[hF.z.2.2.2.1];simp,by rw[hF.z.2.2.2.2];simp⟩⟩
theorem frun_g (x:ArR)(s:ArS)(xd:DvR)(v:Dev)(n:Nat)(a:AS)(P:Pub)(c:Kal)(hG:ArG 2 n x s a)(hS:ST n a v P)(hP:P.length≤700)(hc:lightB c=true):Mo Tryz.prog 28 [.pointer (some ⟨x.a,0,none⟩),.int .i64 0,.agg (klC c (.slice none 0 0)).toArray] (arS x s xd.db++vS xd v) (fun z:ArS×Value=>ArG 2 n x z.1 (runA 0 a v c).1) (fun z=>z.2) (fun z=>arS x z.1 xd.db++vS xd (runA 0 a v c).2):=by
 intro w hs
 refine Ca_ Tryz.func28 rfl Tryz.ntmps28 hs<|Sq<|Rg<|Le XA fun b5 _=>Le AA fun b6 _=>pA_ 6 ?_
 refine Lv (Lw (l:=klC c (.slice none 0 0)))<|Le (Cn_ (begin1_g c)) fun o ho=>Le AA fun b9 _=>LeN (StW (cs:=frC (begF1 c) {fo0 with go:=o}) (h1:=by simp only[frC,klC,anC,lkC,List.cons_append,List.nil_append,List.all_cons,List.all_nil,V.ownV_one,oneS,oneI,oneB,Bool.and_true])) fun _ _=>pA_ 9 ?_
 refine V.CW.perm (sg':=[(b9,.cells (frC (begF1 c) {fo0 with go:=o}).toArray 159 (0,0))]::(frS (begF1 c) {fo0 with go:=o}++([(b6,.cells (anC an0 none none).toArray 83 (0,0))]::[(b5,.cells (klC c (.slice none 0 0)).toArray 79 (0,0))]::(arS x s xd.db++vS xd v)))) ?_ (.refl _)
 refine loopA (γ:=Nat×ArS×FrO) (fun j=>[(0,.pointer (some ⟨x.a,0,none⟩)),(1,.int .i64 0),(6,.pointer (some ⟨b6,0,none⟩)),(9,.pointer (some ⟨b9,0,none⟩)),(10,.int .i64 ((j.1:Nat)+1:Int))]) (fun j=>[(b6,.cells (anC an0 none none).toArray 83 (0,0))]::[(b9,.cells (frC (itP 0 j.1 (a,v,begF1 c)).2.2 j.2.2).toArray 159 (0,0))]::(frS (itP 0 j.1 (a,v,begF1 c)).2.2 j.2.2++(arS x j.2.1 xd.db++vS xd (itP 0 j.1 (a,v,begF1 c)).2.1))) (fun j=>j.1≤400∧ArG 2 n x j.2.1 (itP 0 j.1 (a,v,begF1 c)).1∧FrOk (itP 0 j.1 (a,v,begF1 c)).2.2 j.2.2) (fun j=>400-j.1) ((0,s,{fo0 with go:=o})) ⟨Nat.zero_le _,hG,⟨rfl,ho,⟨rfl,rfl⟩,⟨rfl,rfl⟩,⟨rfl,rfl⟩,⟨rfl,rfl⟩⟩⟩ fun j=>?_
 rintro⟨hj1,hj2,hj3⟩
 refine pA_ 7 ?_
 refine Cd_ rfl (fun h14=>?_) fun h14=>?_
 ·obtain⟨Q,hR⟩:=run_js hS (fr_beg hc) 0 om_ j.1
  have hQ8:Q.length≤1:=by
   rcases hR.q with e|⟨_,p,e,_⟩<;>rw[e]<;>simp
  refine pA_ 8 ?_
  refine Lv (Lw (l:=frC (itP 0 j.1 (a,v,begF1 c)).2.2 j.2.2))<|Le (Cm_ (point_g x 0 (itP 0 j.1 (a,v,begF1 c)).2.2 j.2.2 j.2.1 xd (itP 0 j.1 (a,v,begF1 c)).2.1 2 n (P++Q).length (P++Q).length (itP 0 j.1 (a,v,begF1 c)).1 hj2 hj3 (hR.st.sth hR.fr (by rw[List.length_append];omega)))) fun z hz=>?_
  obtain⟨hz1,hz2⟩:=hz
  rw[show pointA (itP 0 j.1 (a,v,begF1 c)).1 (itP 0 j.1 (a,v,begF1 c)).2.1 0 (itP 0 j.1 (a,v,begF1 c)).2.2=(itP 0 (j.1+1) (a,v,begF1 c)) from rfl] at hz1 hz2⊢
  refine LeN (StW (cs:=frC (itP 0 (j.1+1) (a,v,begF1 c)).2.2 z.2) (h1:=by simp only[frC,klC,anC,lkC,List.cons_append,List.nil_append,List.all_cons,List.all_nil,V.ownV_one,oneS,oneI,oneB,Bool.and_true])) fun _ _=>pA_ 5 ?_
  refine Lv (Ld (v:= .int .i64 (itP 0 (j.1+1) (a,v,begF1 c)).2.2.ph))<|pA_ 3 ?_
  refine Cd_ rfl (fun h23=>?_) fun h23=>?_
  ·have h23:(itP 0 (j.1+1) (a,v,begF1 c)).2.2.ph=7:=h23
   refine Sq<|Rg<|Lv (Fa 22 83)<|Lv (La (anC (itP 0 (j.1+1) (a,v,begF1 c)).2.2.an z.2.so z.2.ho) (hl:=rfl))<|Lv Mv<|LeN (StW (cs:=anC (itP 0 (j.1+1) (a,v,begF1 c)).2.2.an z.2.so z.2.ho) (h1:=by simp only[anC,List.all_cons,List.all_nil,V.ownV_one,oneS,oneI,oneB,Bool.and_true])) fun _ _=>Lv Av<|Lv Av<|Nl<|Ps<|Rt<|Br<|Tr<|Tr<|Br<|Tr<|V.PQ.retCTT (l:=anC (itP 0 (j.1+1) (a,v,begF1 c)).2.2.an z.2.so z.2.ho) rfl rfl rfl rfl in_ Tryz.isAgg83 (by exact Tryz.sizeOf83) ?_
   have e8:=itP_stay h23 400 om_
   intro w' hw;refine⟨(z.1,_),?_,rfl,?_⟩
   ·show ArG 2 n x z.1 (itP 0 400 (a,v,begF1 c)).1
    rw[e8];exact hz1
   ·show Hp _ (arS x z.1 xd.db++vS xd (itP 0 400 (a,v,begF1 c)).2.1) w'
    rw[e8];exact hw.pick pk_
  ·have h23:¬(itP 0 (j.1+1) (a,v,begF1 c)).2.2.ph=7:=h23
   refine pA_ 8 ?_
   exact roundA ((j.1+1,z.1,z.2)) ⟨by simp only;omega,hz1,hz2⟩ (by simp only;omega)
 ·have e9:j.1=400:=by omega
  refine Xt<|Te<|Te<|Bh<|Ps<|Sq<|Rg<|Lv (Bd (anC an0 none none))<|LeN (StW (cs:=anC an0 none none)) fun _ _=>Lv Av<|Lv Av<|Nl<|Ps<|Rt<|V.PQ.retCTT (l:=anC an0 none none) rfl rfl rfl rfl in_ Tryz.isAgg83 (by exact Tryz.sizeOf83) ?_
  rw[e9] at hj2
  intro w' hw;refine⟨(j.2.1,_),hj2,rfl,?_⟩
  rw[e9] at hw;exact hw.pick (ss:=arS x j.2.1 xd.db++vS xd (itP 0 400 (a,v,begF1 c)).2.1) pk_
def kvC (z:Kal×Value):List Value:=klC z.1 z.2
def smZ (a:AS)(v:Dev)(l:List (Kal×Value))(k:Nat):AS×Dev:=((l.take k).map Prod.fst).foldl someF (a,v)
theorem smZ_next {a:AS}{v:Dev}{l:List (Kal×Value)}{k:Nat}{y:Kal×Value}(h:l[k]? =some y):smZ a v l (k+1)=someF (smZ a v l k) y.1:=by
 unfold smZ
 rw[List.take_add_one,h,Option.toList_some,List.map_append,List.foldl_append];rfl
theorem smZ_sj {n:Nat}{a:AS}{v:Dev}{P:Pub}(hS:ST n a v P){l:List (Kal×Value)}(h:P.length+l.length≤700)(k:Nat):∃Q,Q.length≤l.length∧SJ n a v P (smZ a v l k) Q:=by
 obtain⟨Q,h1,h2⟩:=some_sj hS (l:=(l.take k).map Prod.fst) (by rw[List.length_map,List.length_take];omega)
 exact⟨Q,by rw[List.length_map,List.length_take] at h1;omega,h2⟩
theorem fsome_g (x:ArR)(s:ArS)(xd:DvR)(v:Dev)(n:Nat)(a:AS)(P:Pub)(l:List (Kal×Value))(p:Option Addr)(cp:Nat)(hG:ArG 2 n x s a)(hS:ST n a v P)(hP:P.length+l.length≤700)(h1:∀z∈l,z.2.oneCell'=true)(w:World)(hl:V.slAt w p 5 kvC l)(hd:0<l.length→∀b o,p=some ⟨b,o,none⟩→b∉V.ids (arS x s xd.db++vS xd v))(hs:Sat (arS x s xd.db++vS xd v) w):Calls Tryz.prog 6 [.pointer (some ⟨x.a,0,none⟩),.slice p l.length cp].toArray w fun e w'=>∃z:ArS,ArG 2 n x z (smZ a v l l.length).1∧e= .returned (.tuple #[])∧Hp ⟨w,V.ids ((arS x s xd.db++vS xd v))⟩ (arS x z xd.db++vS xd (smZ a v l l.length).2) w':=by
 refine Cs_ (arS x s xd.db++vS xd v) Tryz.func6 rfl Tryz.ntmps6 hs<|pA_ 6 ?_
 refine loopA (γ:=Nat×ArS) (fun k=>[(0,.pointer (some ⟨x.a,0,none⟩)),(1,.slice p l.length cp),(4,.int .i64 (k.1:Nat))]) (fun k=>(arS x k.2 xd.db++vS xd (smZ a v l k.1).2)) (fun k=>k.1≤l.length∧ArG 2 n x k.2 (smZ a v l k.1).1) (fun k=>l.length-k.1) ((0,s)) ⟨Nat.zero_le _,hG⟩ fun k=>?_
 rintro⟨hk1,hk2⟩
 refine pA_ 9 ?_
 refine Cd_ rfl (fun h9=>?_) fun h9=>?_
 ·obtain⟨bb1,o1,y,rfl,hb1,hy,hr1⟩:=V.slAt_at hl rfl (k:=k.1) om_
  obtain⟨Q,hQ1,hQ2⟩:=smZ_sj hS hP k.1
  refine pA_ 9 ?_
  refine Lv (Val.loadOA (cs:=kvC y) rfl Tryz.isAgg79 hb1 (hd om_ _ _ rfl) (hr1 k.1 y hy) Tryz.sizeOf79)<|Le AA fun b5 _=>LeN (StW (cs:=kvC y) (h1:=by have h8:=h1 y (List.mem_of_getElem? hy);simp only[kvC,klC,List.all_cons,List.all_nil,oneS,oneI,h8,Bool.and_true])) fun _ _=>pA_ 5 ?_
  refine LeN (sx_ (klC y.1 (.slice none 0 0))) fun _ _=>pA_ 4 ?_
  refine Lv (Lw (l:=klC y.1 (.slice none 0 0)))<|Le (Cz_ (fweight_g y.1)) fun _ _=>Lv Cm<|Lv Mv ?_
  refine LW.split (d:=20) rfl (fun h20=>?_) (fun h20=>?_)
  ·replace h20:=bT h20
   have h20:wgtF y.1≤500:=h20
   refine Lv (Fa 0 3)<|Lv (Ld (v:= .int .i64 y.1.k))<|Lv Cm<|Lv Mv ?_
   refine LW.split (d:=24) rfl (fun h24=>?_) (fun h24=>?_)
   ·replace h24:=bT h24
    have h24:y.1.k=2:=h24
    refine pA_ 8 ?_
    have hlt:lightB y.1=true:=by
     unfold lightB
     rw[← wgt_le]
     simp only[Bool.and_eq_true,Bool.or_eq_true,decide_eq_true_eq]
     omega
    refine Rg<|Lv Mv<|Lv (Lw (l:=klC y.1 (.slice none 0 0)))<|Le (Cm_ (frun_g x k.2 xd (smZ a v l k.1).2 n (smZ a v l k.1).1 (P++Q) y.1 hk2 hQ2.st (by rw[List.length_append];omega) hlt)) fun z hz=>?_
    have e8:smZ a v l (k.1+1)=runA 0 (smZ a v l k.1).1 (smZ a v l k.1).2 y.1:=(smZ_next hy).trans (if_pos hlt)
    rw[← e8] at hz⊢
    refine pA_ 8 ?_
    exact roundA ((k.1+1,z.1)) ⟨by simp only;omega,hz⟩ (by simp only;omega)
   ·replace h24:=bF h24
    have h24:¬y.1.k=2:=h24
    refine Lv (Fa 0 3)<|Lv (Ld (v:= .int .i64 y.1.k))<|pA_ 5 ?_
    refine Cd_ rfl (fun h29=>?_) fun h29=>?_
    ·have h29:y.1.k=3:=h29
     have hlt:lightB y.1=true:=by
      unfold lightB
      rw[← wgt_le]
      simp only[Bool.and_eq_true,Bool.or_eq_true,decide_eq_true_eq]
      omega
     refine Rg<|Lv Mv<|Lv (Lw (l:=klC y.1 (.slice none 0 0)))<|Le (Cm_ (frun_g x k.2 xd (smZ a v l k.1).2 n (smZ a v l k.1).1 (P++Q) y.1 hk2 hQ2.st (by rw[List.length_append];omega) hlt)) fun z hz=>?_
     have e8:smZ a v l (k.1+1)=runA 0 (smZ a v l k.1).1 (smZ a v l k.1).2 y.1:=(smZ_next hy).trans (if_pos hlt)
     rw[← e8] at hz⊢
     refine pA_ 8 ?_
     exact roundA ((k.1+1,z.1)) ⟨by simp only;omega,hz⟩ (by simp only;omega)
    ·have h29:¬y.1.k=3:=h29
     refine pA_ 8 ?_
     have e8:smZ a v l (k.1+1)=smZ a v l k.1:=(smZ_next hy).trans (if_neg (by
      unfold lightB
      rw[← wgt_le]
      simp only[Bool.and_eq_true,Bool.or_eq_true,decide_eq_true_eq]
      omega))
     rw[← e8] at hk2⊢
     exact roundA ((k.1+1,k.2)) ⟨by simp only;omega,hk2⟩ (by simp only;omega)
  ·replace h20:=bF h20
   have h20:¬wgtF y.1≤500:=by omega
   refine pA_ 20 ?_
   have e8:smZ a v l (k.1+1)=smZ a v l k.1:=(smZ_next hy).trans (if_neg (by
    unfold lightB
    rw[← wgt_le]
    simp only[Bool.and_eq_true,Bool.or_eq_true,decide_eq_true_eq]
    omega))
   rw[← e8] at hk2⊢
   exact roundA ((k.1+1,k.2)) ⟨by simp only;omega,hk2⟩ (by simp only;omega)
 ·refine pA_ 4 ?_
  refine PQ.end0 rfl fun w' hw=>?_
  obtain⟨k1,k2⟩:=k
  obtain rfl:k1=l.length:=by simp only at*;omega
  exact⟨k2,hk2,rfl,hw.pick pk_⟩
end
def clN:Nat→Ck×Dev→Ck×Dev
 |0,z=>z
 |j+1,z=>((kStep (clN j z).1 (clN j z).2).1,(kStep (clN j z).1 (clN j z).2).2.1)
structure CLine (c0 c1:Ce)(E:Int)(ph:Nat):Prop where
 a:ph=1∨ph=2→c1.now=c0.now∧c1.kept=c0.kept∧c1.sent=false
 b:ph=3∨ph=4→c1.now.1=clockL E∧c1.kept=c0.kept
 s3:ph=3→c1.sent=false
 s4:ph=4→c1.way=c1.now∧c1.sent=true
 d:ph=0→c1.now.1=clockL E∧c1.kept=c1.now∧c1.sent=false
structure CLd (D0:List Ce)(N:List Bool)(E:Int)(ph:Nat)(left:List Bool)(D:List Ce):Prop where
 len:D.length=D0.length
 lf:∀i:Nat,left[i]? =some true→N[i]? =some true
 d0:∀x,D[0]? =some x→∃y,D0[0]? =some y∧x.now=y.now∧x.kept=y.kept∧x.sent=false
 d1:∀x,D[1]? =some x→∃y,D0[1]? =some y∧CLine y x E ph
 at_:∀i:Nat,2≤i→∀x,D[i]? =some x→∃y,D0[i]? =some y∧x.now=y.now∧(x.kept=y.kept∨(N[i]? =some true∧x.kept=y.now))∧(x.sent=true→x.way=y.now∧N[i]? =some true)∧
  (N[i]? =some true→(ph=1→left[i]? =some true∨x.sent=true)∧(ph≠1→x.kept=y.now))
 sn:ph≠1→ph≠4→∀(i:Nat) (x:Ce),D[i]? =some x→x.sent=false
theorem flush_cell {D:List Ce}{k i:Nat}{x:Ce}(h:(upD D (k:Nat) fun c=>{c with way:=c.now,sent:=true})[i]? =some x):∃y,D[i]? =some y∧x.now=y.now∧x.kept=y.kept∧(i≠k→x=y)∧(i=k→x.way=y.now∧x.sent=true):=by
 unfold upD at h
 rw[if_pos om_,Int.toNat_natCast,List.getElem?_modify] at h
 cases hD:D[i]? with
 |none=>rw[hD] at h;simp at h
 |some y=>
  rw[hD] at h
  by_cases e:k=i
  ·simp[e] at h
   subst h
   exact⟨y,rfl,rfl,rfl,fun hn=>absurd e.symm hn,fun _=>⟨rfl,rfl⟩⟩
  ·simp[e] at h
   subst h
   exact⟨y,rfl,rfl,rfl,fun _=>rfl,fun hn=>absurd hn.symm e⟩
theorem fence_cell {D:List Ce}{i:Nat}{x:Ce}(h:(D.map fenB)[i]? =some x):∃y,D[i]? =some y∧x.now=y.now∧x.sent=false∧(y.sent=true→x.kept=y.way)∧(y.sent=false→x.kept=y.kept):=by
 obtain⟨y,hy,rfl⟩:=fen_at h
 refine⟨y,hy,?_⟩
 unfold fenB
 cases hs:y.sent<;>simp[hs]
theorem firstT_some {l:List Bool}:∀{k:Nat},firstT l=some k→l[k]? =some true:=by
 induction l with
 |nil=>intro k h;cases h
 |cons b r ih=>
  intro k h
  cases b with
  |true=>injection h with h;subst h;rfl
  |false=>
   have h:(firstT r).map (· +1)=some k:=h
   obtain⟨j,hj,rfl⟩:=Option.map_eq_some_iff.1 h
   exact ih hj
theorem firstT_none {l:List Bool}:firstT l=none→∀i:Nat,l[i]? ≠some true:=by
 induction l with
 |nil=>intro _ i h;simp at h
 |cons b r ih=>
  intro h i hi
  cases b with
  |true=>cases h
  |false=>
   have h:(firstT r).map (· +1)=none:=h
   rcases i with _|i
   ·simp at hi
   ·exact ih (by simpa using h) i (by simpa using hi)
theorem clock_len (E:Int):(clockL E).length=64:=by
 unfold clockL
 exact sealL_len (by rw[putN_len];decide)
theorem cl_1a {D0:List Ce}{N:List Bool}{E:Int}{left:List Bool}{D:List Ce}(h:CLd D0 N E 1 left D)(hN:∀i:Nat,N[i]? =some true→2≤i){k:Nat}(hf:firstT left=some k):CLd D0 N E 1 (left.set k false) (upD D (k:Nat) fun c=>{c with way:=c.now,sent:=true}):=by
 have hk:=firstT_some hf
 have hkN:=h.lf k hk
 have hk2:=hN k hkN
 refine⟨(upD_len _ _ _).trans h.len,fun i hi=>?_,fun x hx=>?_,fun x hx=>?_,fun i hi x hx=>?_,fun h1=>absurd rfl h1⟩
 ·rw[List.getElem?_set] at hi
  split at hi
  ·split at hi<;>simp at hi
  ·exact h.lf i hi
 ·obtain⟨y,hy,a1,a2,a3,_⟩:=flush_cell hx
  have a3:=a3 om_
  subst a3
  exact h.d0 x hy
 ·obtain⟨y,hy,a1,a2,a3,_⟩:=flush_cell hx
  have a3:=a3 om_
  subst a3
  exact h.d1 x hy
 ·obtain⟨y,hy,a1,a2,a3,a4⟩:=flush_cell hx
  obtain⟨z,hz,b1,b2,b3,b4⟩:=h.at_ i hi y hy
  by_cases ek:i=k
  ·subst ek
   obtain⟨a5,a6⟩:=a4 rfl
   exact⟨z,hz,a1.trans b1,by rw[a2];exact b2,fun _=>⟨a5.trans b1,hkN⟩,fun _=>⟨fun _=> .inr a6,fun h1=>absurd rfl h1⟩⟩
  ·have a3:=a3 ek
   subst a3
   refine⟨z,hz,b1,b2,b3,fun hn=>⟨fun h1=>?_,(b4 hn).2⟩⟩
   rw[List.getElem?_set_ne (Ne.symm ek)]
   exact(b4 hn).1 h1
theorem cl_1b {D0:List Ce}{N:List Bool}{E:Int}{left:List Bool}{D:List Ce}(h:CLd D0 N E 1 left D)(hf:firstT left=none):CLd D0 N E 2 left (D.map fenB):=by
 have hno:=firstT_none hf
 refine⟨(List.length_map _).trans h.len,h.lf,fun x hx=>?_,fun x hx=>?_,fun i hi x hx=>?_,fun _ _ i x hx=>?_⟩
 ·obtain⟨y,hy,a1,a2,a3,a4⟩:=fence_cell hx
  obtain⟨z,hz,b1,b2,b3⟩:=h.d0 y hy
  exact⟨z,hz,a1.trans b1,(a4 b3).trans b2,a2⟩
 ·obtain⟨y,hy,a1,a2,a3,a4⟩:=fence_cell hx
  obtain⟨z,hz,b⟩:=h.d1 y hy
  obtain⟨b1,b2,b3⟩:=b.a (.inl rfl)
  exact⟨z,hz,⟨fun _=>⟨a1.trans b1,(a4 b3).trans b2,a2⟩,fun h=>by omega,fun h=>by omega,fun h=>by omega,fun h=>by omega⟩⟩
 ·obtain⟨y,hy,a1,a2,a3,a4⟩:=fence_cell hx
  obtain⟨z,hz,b1,b2,b3,b4⟩:=h.at_ i hi y hy
  refine⟨z,hz,a1.trans b1,?_,(fun h=>by rw[a2] at h;cases h),fun hn=>⟨fun h=>by omega,fun _=>?_⟩⟩
  ·cases hs:y.sent with
   |true=>right;exact⟨(b3 hs).2,(a3 hs).trans (b3 hs).1⟩
   |false=>rw[a4 hs];exact b2
  ·rcases(b4 hn).1 rfl with h1|h1
   ·exact absurd h1 (hno i)
   ·exact(a3 h1).trans (b3 h1).1
 ·obtain⟨y,hy,a1,a2,_⟩:=fence_cell hx
  exact a2
theorem cl_2 {D0:List Ce}{N:List Bool}{E:Int}{left:List Bool}{D:List Ce}(h:CLd D0 N E 2 left D):CLd D0 N E 3 left (stD D 1 0 (clockL E)):=by
 have hst:∀{i:Nat} {x:Ce},(stD D 1 0 (clockL E))[i]? =some x→∃y,D[i]? =some y∧x.kept=y.kept∧x.way=y.way∧x.sent=y.sent∧((1:Int)≠(i:Nat)→x.now=y.now)∧((1:Int)=(i:Nat)→x.now.1=clockL E):=fun hx=>st_cell (clock_len _) hx
 refine⟨(stD_len _ _ _ _).trans h.len,h.lf,fun x hx=>?_,fun x hx=>?_,fun i hi x hx=>?_,fun _ _ i x hx=>?_⟩
 ·obtain⟨y,hy,a1,a2,a3,a4,_⟩:=hst hx
  obtain⟨z,hz,b1,b2,b3⟩:=h.d0 y hy
  exact⟨z,hz,(a4 om_).trans b1,a1.trans b2,a3.trans b3⟩
 ·obtain⟨y,hy,a1,a2,a3,a4,a5⟩:=hst hx
  obtain⟨z,hz,b⟩:=h.d1 y hy
  obtain⟨b1,b2,b3⟩:=b.a (.inr rfl)
  exact⟨z,hz,⟨fun h=>by omega,fun _=>⟨a5 rfl,a1.trans b2⟩,fun _=>a3.trans b3,fun h=>by omega,fun h=>by omega⟩⟩
 ·obtain⟨y,hy,a1,a2,a3,a4,a5⟩:=hst hx
  obtain⟨z,hz,b1,b2,b3,b4⟩:=h.at_ i hi y hy
  exact⟨z,hz,(a4 om_).trans b1,by rw[a1];exact b2,by rw[a3,a2];exact b3,fun hn=>⟨fun h=>by omega,fun _=>by rw[a1];exact(b4 hn).2 om_⟩⟩
 ·obtain⟨y,hy,a1,a2,a3,_⟩:=hst hx
  exact a3.trans (h.sn om_ om_ i y hy)
theorem cl_3 {D0:List Ce}{N:List Bool}{E:Int}{left:List Bool}{D:List Ce}(h:CLd D0 N E 3 left D):CLd D0 N E 4 left (upD D ((1:Nat):Int) fun c=>{c with way:=c.now,sent:=true}):=by
 refine⟨(upD_len _ _ _).trans h.len,h.lf,fun x hx=>?_,fun x hx=>?_,fun i hi x hx=>?_,fun _ h4=>absurd rfl h4⟩
 ·obtain⟨y,hy,a1,a2,a3,_⟩:=flush_cell hx
  have a3:=a3 om_
  subst a3
  exact h.d0 x hy
 ·obtain⟨y,hy,a1,a2,a3,a4⟩:=flush_cell hx
  obtain⟨z,hz,b⟩:=h.d1 y hy
  obtain⟨b1,b2⟩:=b.b (.inl rfl)
  obtain⟨a5,a6⟩:=a4 rfl
  exact⟨z,hz,⟨fun h=>by omega,fun _=>⟨by rw[a1];exact b1,a2.trans b2⟩,fun h=>by omega,fun _=>⟨a5.trans a1.symm,a6⟩,fun h=>by omega⟩⟩
 ·obtain⟨y,hy,a1,a2,a3,a4⟩:=flush_cell hx
  have a3:=a3 om_
  subst a3
  obtain⟨z,hz,b1,b2,b3,b4⟩:=h.at_ i hi x hy
  exact⟨z,hz,b1,b2,b3,fun hn=>⟨fun h=>by omega,fun _=>(b4 hn).2 om_⟩⟩
theorem cl_4 {D0:List Ce}{N:List Bool}{E:Int}{left:List Bool}{D:List Ce}(h:CLd D0 N E 4 left D):CLd D0 N E 0 left (D.map fenB):=by
 refine⟨(List.length_map _).trans h.len,h.lf,fun x hx=>?_,fun x hx=>?_,fun i hi x hx=>?_,fun _ _ i x hx=>?_⟩
 ·obtain⟨y,hy,a1,a2,a3,a4⟩:=fence_cell hx
  obtain⟨z,hz,b1,b2,b3⟩:=h.d0 y hy
  exact⟨z,hz,a1.trans b1,(a4 b3).trans b2,a2⟩
 ·obtain⟨y,hy,a1,a2,a3,a4⟩:=fence_cell hx
  obtain⟨z,hz,b⟩:=h.d1 y hy
  obtain⟨b1,b2⟩:=b.b (.inr rfl)
  obtain⟨b3,b4⟩:=b.s4 rfl
  exact⟨z,hz,⟨fun h=>by omega,fun h=>by omega,fun h=>by omega,fun h=>by omega,fun _=>⟨by rw[a1];exact b1,(a3 b4).trans (b3.trans a1.symm),a2⟩⟩⟩
 ·obtain⟨y,hy,a1,a2,a3,a4⟩:=fence_cell hx
  obtain⟨z,hz,b1,b2,b3,b4⟩:=h.at_ i hi y hy
  refine⟨z,hz,a1.trans b1,?_,(fun h=>by rw[a2] at h;cases h),fun hn=>⟨fun h=>by omega,fun _=>?_⟩⟩
  ·cases hs:y.sent with
   |true=>right;exact⟨(b3 hs).2,(a3 hs).trans (b3 hs).1⟩
   |false=>rw[a4 hs];exact b2
  ·cases hs:y.sent with
   |true=>exact(a3 hs).trans (b3 hs).1
   |false=>rw[a4 hs];exact(b4 hn).2 om_
 ·obtain⟨y,hy,a1,a2,_⟩:=fence_cell hx
  exact a2
def potK (c:Ck):Nat:=if c.clo=0 then 0 else if c.ph=1 then c.left.count true+4 else 5-c.ph
structure CL (D0:List Ce)(N:List Bool)(E:Int)(k0:Ck)(z:Ck×Dev):Prop where
 d:CLd D0 N E z.1.ph z.1.left z.2.D
 ph:z.1.ph≤4
 clo:z.1.clo=if z.1.ph=0 then 0 else E
 dur:z.1.dur=if z.1.ph=0 then E else k0.dur
 same:z.1.now=k0.now∧z.1.owed=k0.owed∧z.1.noted=k0.noted
theorem count_unset {l:List Bool}:∀{k:Nat},l[k]? =some true→(l.set k false).count true+1=l.count true:=by
 induction l with
 |nil=>intro k h;simp at h
 |cons b r ih=>
  intro k h
  rcases k with _|k
  ·simp at h;subst h;simp
  ·have:=ih (k:=k) (by simpa using h)
   cases b<;>simp<;>omega
theorem CL.step {D0:List Ce}{N:List Bool}{E:Int}{k0:Ck}{c:Ck}{v:Dev}(h:CL D0 N E k0 (c,v))(hE:E≠0)(hN:∀i:Nat,N[i]? =some true→2≤i):CL D0 N E k0 ((kStep c v).1,(kStep c v).2.1)∧potK (kStep c v).1=potK c-1:=by
 obtain⟨cn,cd,cc,co,cno,cl,cp⟩:=c
 obtain⟨hd,hph,hclo,hdur,hs⟩:=h
 simp only at hd hph hclo hdur hs
 unfold kStep
 by_cases h0:cc=0
 ·simp only[h0,if_true]
  refine⟨⟨hd,hph,?_,hdur,hs⟩,?_⟩
  ·rw[h0] at hclo;exact hclo
  ·unfold potK;simp
 ·have hne:cp≠0:=fun e=>h0 (by rw[hclo,if_pos e])
  rw[if_neg hne] at hclo hdur
  subst hclo
  subst hdur
  simp only[h0,if_false]
  have hc4:cp=1∨cp=2∨cp=3∨cp=4:=by omega
  rcases hc4 with e|e|e|e<;>subst e<;>simp only
  ·cases hf:firstT cl with
   |some k=>
    refine⟨⟨cl_1a hd hN hf,by simp,by simp,by simp,hs⟩,?_⟩
    unfold potK
    simp only[h0,if_false,if_true]
    have:=count_unset (firstT_some hf)
    omega
   |none=>
    refine⟨⟨cl_1b hd hf,by simp,by simp,by simp,hs⟩,?_⟩
    unfold potK
    simp only[h0,if_false,if_true]
    have:cl.count true=0:=List.count_eq_zero.2 fun hm=>by
     obtain⟨i,hi⟩:=List.mem_iff_getElem?.1 hm
     exact firstT_none hf i hi
    simp[this]
  ·refine⟨⟨cl_2 hd,by simp,by simp,by simp,hs⟩,?_⟩
   unfold potK
   simp[h0]
  ·refine⟨⟨cl_3 hd,by simp,by simp,by simp,hs⟩,?_⟩
   unfold potK
   simp[h0]
  ·refine⟨⟨cl_4 hd,by simp,by simp,by simp,hs⟩,?_⟩
   unfold potK
   simp[h0]
theorem clN_cl {D0:List Ce}{N:List Bool}{E:Int}{k0:Ck}{z:Ck×Dev}(h:CL D0 N E k0 z)(hE:E≠0)(hN:∀i:Nat,N[i]? =some true→2≤i):∀j,CL D0 N E k0 (clN j z)∧potK (clN j z).1=potK z.1-j
 |0=>⟨h,rfl⟩
 |j+1=>by
  obtain⟨h1,h2⟩:=clN_cl h hE hN j
  obtain⟨h3,h4⟩:=CL.step (c:=(clN j z).1) (v:=(clN j z).2) h1 hE hN
  exact⟨h3,h4.trans (by rw[h2];omega)⟩
structure FD (D:List Ce)(P:Pub)(E:Int):Prop where
 may:∀p∈P,mayF p.2=true∧(p.2.kind=1∨p.2.kind=3)
 home:∀p∈P,homeF p.1 p.2.cls=true
 rng:∀p∈P,2≤p.1∧p.1+spanF p.2.cls≤2+slabsF D.length*8
 inj:∀p∈P,∀q∈P,p.2.ver=q.2.ver→p=q
 in_:∀p∈P,p.2.ep≤E→linesL D p.1 (spanF p.2.cls)=encL p.2
 only:∀i:Int,2≤i→calmH (nowL D i)∨∃p∈P,p.1=i∧nowL D i=(encL p.2).take 64
structure LiveE (P:Pub)(E:Int)(p:Int×Blk):Prop where
 mem:p∈P
 ep:p.2.ep≤E
 map:p.2.kind=1
 top:∀q∈P,q.2.ep≤E→q.2.id=p.2.id→q.2.ver≤p.2.ver
def fdP (p:Int×Blk):Fnd:=⟨p.1,true,p.2⟩
theorem head_enc {x:Blk}(hm:mayF x=true):headF ((encL x).take 64)=some (x.cls.toNat,x.kind.toNat):=(head_tells hm (l:=encL x) rfl (by have:=encL_len hm;have:=(capN_span (may_span hm)).2;omega)).2.2.2.2.2
theorem nat_of {m:Int}(h:0≤m):((m.toNat:Nat):Int)=m:=by omega
theorem found_at {D:List Ce}{P:Pub}{E:Int}(h:FD D P E){p:Int×Blk}(hp:p∈P)(hn:nowL D p.1=(encL p.2).take 64):∃f,scN D (p.1-2)=some f∧f∈fdA D∧f.line=p.1∧(f.good=true→f.b.id=p.2.id∧f.b.ver=p.2.ver∧f.b.ep=p.2.ep∧f.b.kind=p.2.kind)∧(p.2.ep≤E→f=fdP p):=by
 obtain⟨hm,hk⟩:=h.may p hp
 have hr:=h.rng p hp
 have hcl:=may_cls hm
 have hkd:=may_kind hm
 have hsp:=(capN_span (may_span hm)).2
 have h64:(nowL D p.1).length=64:=by rw[hn,List.length_take];have:=encL_len hm;omega
 have hh:headF (nowL D (2+(p.1-2)))=some (p.2.cls.toNat,p.2.kind.toNat):=by
  rw[show 2+(p.1-2)=p.1 by omega,hn];exact head_enc hm
 have e1:=nat_of hcl.1
 have e2:=nat_of hkd.1
 have hsc:scN D (p.1-2)=some (lookF D p.1 p.2.cls p.2.kind):=by
  unfold scN
  rw[hh]
  simp only
  rw[if_neg (by rcases hk with e|e<;>rw[e]<;>decide),e1,e2,show 2+(p.1-2)=p.1 by omega]
 refine⟨_,hsc,?_,look_line _ _ _ _,fun hg=>?_,fun he=>?_⟩
 ·refine fds_mem.2 ⟨(p.1-2).toNat,by omega,?_⟩
  rw[nat_of om_];exact hsc
 ·have hlk:lookF D p.1 p.2.cls p.2.kind=match decF (linesL D p.1 (spanF p.2.cls)) with
   |none=>⟨p.1,false,⟨p.2.cls,p.2.kind,0,0,0,[],[]⟩⟩
   |some b=>⟨p.1,true,b⟩:=by
   unfold lookF
   rw[if_pos (h.home p hp)]
   cases decF (linesL D p.1 (spanF p.2.cls))<;>rfl
  rw[hlk] at hg⊢
  cases hd:decF (linesL D p.1 (spanF p.2.cls)) with
  |none=>rw[hd] at hg;cases hg
  |some b=>
   have ht:=dec_tells hm (l:=linesL D p.1 (spanF p.2.cls)) (by rw[lines_take om_ h64,hn]) hd
   exact⟨ht.1,ht.2.1,ht.2.2.1,ht.2.2.2.1⟩
 ·unfold lookF
  rw[if_pos (h.home p hp),h.in_ p hp he,dec_enc hm];rfl
theorem first_line {D:List Ce}{line:Int}{l:List UInt8}{n:Nat}(hl:l.length=64*n)(hn:1≤n)(h:linesL D line n=l):nowL D line=l.take 64:=by
 have:=lines_part hl h 0 om_
 rw[show line+((0:Nat):Int)=line by simp] at this
 simpa using this
theorem FD.now {D:List Ce}{P:Pub}{E:Int}(h:FD D P E){p:Int×Blk}(hp:p∈P)(he:p.2.ep≤E):nowL D p.1=(encL p.2).take 64:=
 first_line (encL_len (h.may p hp).1) (capN_span (may_span (h.may p hp).1)).2.1 (h.in_ p hp he)
theorem found_of {D:List Ce}{P:Pub}{E:Int}(h:FD D P E){f:Fnd}(hf:f∈fdA D):∃p∈P,f.line=p.1∧(f.good=true→f.b.id=p.2.id∧f.b.ver=p.2.ver∧f.b.ep=p.2.ep∧f.b.kind=p.2.kind)∧(p.2.ep≤E→f=fdP p):=by
 obtain⟨i,hi,hs⟩:=fds_mem.1 hf
 obtain⟨c,kd,hh,hk,_⟩:=scN_head hs
 rcases h.only (2+(i:Nat)) om_ with hc|⟨p,hp,hl,hn⟩
 ·exact absurd (hc c kd hh) hk
 ·rw[← hl] at hn
  obtain⟨g,hg,_,h1,h2,h3⟩:=found_at h hp hn
  rw[show p.1-2=((i:Nat):Int) by omega,hs] at hg
  injection hg with hg
  subst hg
  exact⟨p,hp,h1,h2,h3⟩
theorem kp_mem {D:List Ce}{P:Pub}{E:Int}(h:FD D P E)(f:Fnd):f∈decK E (fdA D)↔∃p,LiveE P E p∧f=fdP p:=by
 have hin:∀p∈P,p.2.ep≤E→fdP p∈fdA D:=fun p hp he=>by
  obtain⟨g,_,hg,_,_,h3⟩:=found_at h hp (h.now hp he)
  rw[h3 he] at hg;exact hg
 have hs:∀p:Int×Blk,p.2.ep≤E→soundF E (fdP p)=true:=fun p he=>by unfold soundF fdP;simp[he]
 unfold decK
 rw[List.mem_filter]
 constructor
 ·rintro⟨hf,hk⟩
  obtain⟨p,hp,h1,h2,h3⟩:=found_of h hf
  obtain⟨hpay,hno⟩:=keep_pay hk
  unfold payF soundF at hpay
  rw[Bool.and_eq_true,Bool.and_eq_true] at hpay
  obtain⟨⟨hg,he⟩,hk3⟩:=hpay
  have he:=of_decide_eq_true he
  have hk3:=of_decide_eq_true hk3
  obtain⟨t1,t2,t3,t4⟩:=h2 hg
  have hpe:p.2.ep≤E:=by omega
  have e:=h3 hpe
  subst e
  refine⟨p,⟨hp,hpe,?_,fun q hq hqe hid=>?_⟩,rfl⟩
  ·rcases(h.may p hp).2 with e|e
   ·exact e
   ·exact absurd (by show p.2.kind=3;exact e) hk3
  ·have:=hno _ (hin q hq hqe)
   unfold newF at this
   rw[hs q hqe] at this
   simp only[Bool.true_and,Bool.and_eq_false_iff,Bool.or_eq_false_iff,decide_eq_false_iff_not] at this
   rcases this with h8|h8
   ·exact absurd (show(fdP q).b.id=(fdP p).b.id from hid) h8
   ·have h9:=h8.1
    exact Int.not_lt.1 h9
 ·rintro⟨p,hp,rfl⟩
  refine⟨hin p hp.mem hp.ep,keep_of ?_ fun g hg=>?_⟩
  ·unfold payF
   rw[hs p hp.ep,Bool.true_and,decide_eq_true_eq]
   show p.2.kind≠3
   rw[hp.map];decide
  ·cases hn:newF E g (fdP p) with
   |false=>rfl
   |true=>
    exfalso
    unfold newF at hn
    simp only[Bool.and_eq_true,Bool.or_eq_true,decide_eq_true_eq] at hn
    obtain⟨⟨hsg,hid⟩,hv⟩:=hn
    obtain⟨q,hq,h1,h2,h3⟩:=found_of h hg
    unfold soundF at hsg
    rw[Bool.and_eq_true,decide_eq_true_eq] at hsg
    obtain⟨t1,t2,t3,t4⟩:=h2 hsg.1
    have hqe:q.2.ep≤E:=by omega
    have e:=h3 hqe
    subst e
    have htop:=hp.top q hq hqe hid
    rcases hv with hv|⟨⟨_,hv⟩,hl⟩
    ·have hv:p.2.ver<q.2.ver:=hv
     omega
    ·have e:=h.inj q hq p hp.mem hv
     subst e
     have hl:q.1<q.1:=hl
     omega
structure MV (L0:List Slb)(Gs:List Fnd)(c:OvC):Prop where
 len:c.L.length=L0.length
 pool:∀(i:Nat) (s:Slb),c.L[i]? =some s→(s.c= -1∧(∀k:Nat,s.tk.1[k]? ≠some true))∨((∃s0,L0[i]? =some s0∧s.c=s0.c)∧∀k:Nat,s.tk.1[k]? =some true→∃g∈Gs,g.line=2+(i:Nat)*8+(k:Nat)*(spanF s.c:Nat))
 ti:tInv c.Tz
 tl:∀l,l∈tLinks c.Tz↔∃g∈Gs,l=lkOf g
 q:c.q=[]
theorem mv_next {L0:List Slb}{Gs:List Fnd}{c:OvC}(h:MV L0 Gs c){p:Int×Blk}(hL:L0.length≤32)(hm:mayF p.2=true)(hk:p.2.kind=1)(ht:Tk L0 p.1 p.2.cls)(hl:∀g∈Gs,g.line≠p.1)(hkey:∀g∈Gs,g.b.key≠p.2.key):∃c',ov1 c (fdP p)=some c'∧MV L0 (Gs++[fdP p]) c':=by
 obtain⟨i,k,hT⟩:=ht
 obtain⟨s0,hs0,hc0,_⟩:=hT.s
 have hi:=len_lt hs0
 have hsl:=hT.slab
 have hix:=hT.ix
 have hk8:k<8:=by
  have h9:=k_span hT.k8
  have:=Nat.le_mul_of_pos_right k (Nat.pos_of_ne_zero h9.1);omega
 obtain⟨s,hs⟩:∃s,c.L[i]? =some s:=⟨c.L[i]'(by rw[h.len];exact hi),by simp⟩
 have hcl:s.c= -1∨s.c=p.2.cls:=by
  rcases h.pool i s hs with⟨e,_⟩|⟨⟨s1,h1,h2⟩,_⟩
  ·exact .inl e
  ·rw[hs0] at h1;injection h1 with h1;subst h1;exact .inr (h2.trans hc0)
 have hfree:s.tk.1[k]? ≠some true:=fun hb=>by
  rcases h.pool i s hs with⟨_,e⟩|⟨⟨s1,h1,h2⟩,h3⟩
  ·exact e k hb
  ·obtain⟨g,hg,hgl⟩:=h3 k hb
   rw[hs0] at h1;injection h1 with h1;subst h1
   rw[h2,hc0,← hT.ln] at hgl
   exact hl g hg hgl
 have hmk:markF c.L p.1 p.2.cls=(c.L.set i (s.take p.2.cls k),0):=by
  unfold markF
  rw[hsl,if_neg (by rw[tk_home ⟨i,k,hT⟩,h.len];simp;omega),Int.toNat_natCast,hs]
  simp only
  rw[hix,Int.toNat_natCast,if_neg]
  rintro(⟨h1,h2⟩|h1)
  ·rcases hcl with e|e
   ·exact h1 e
   ·exact h2 e
  ·exact hfree h1
 have hbad:ovBad c.L (fdP p)=false:=by
  unfold ovBad fdP
  simp only
  rw[hm,hmk,hk];rfl
 have hget:(tGet c.Tz p.2.key).isSome=false:=by
  cases hg:tGet c.Tz p.2.key with
  |none=>rfl
  |some l=>
   obtain⟨h1,h2⟩:=(tget_iff h.ti).1 hg
   obtain⟨g,hg2,rfl⟩:=(h.tl l).1 h1
   exact absurd h2 (hkey g hg2)
 have hO:ov1 c (fdP p)=some ⟨(markF c.L p.1 p.2.cls).1,tSet c.Tz (lkOf (fdP p)),oset c.D (lkOf (fdP p)),c.q,imax c.id p.2.id,imax c.ver p.2.ver⟩:=by
  unfold ov1
  rw[hbad,if_neg (by decide),if_neg (by show ¬p.2.kind=2;rw[hk];decide),if_neg (by show ¬(tGet c.Tz p.2.key).isSome=true;rw[hget];decide)]
  rfl
 refine⟨_,hO,?_,?_,?_,?_,h.q⟩
 ·show(markF c.L p.1 p.2.cls).1.length=_
  rw[hmk,List.length_set];exact h.len
 ·intro j s' hs'
  have hs':(markF c.L p.1 p.2.cls).1[j]? =some s':=hs'
  rw[hmk] at hs'
  by_cases e:j=i
  ·subst e
   rw[List.getElem?_set_self (by rw[h.len];exact hi)] at hs'
   injection hs' with hs'
   subst hs'
   right
   refine⟨⟨s0,hs0,hc0.symm⟩,fun m hb=>?_⟩
   have hb:(setB s.tk k true).1[m]? =some true:=hb
   rw[setB_at _ _ hk8] at hb
   by_cases e2:k=m
   ·subst e2
    exact⟨fdP p,by simp,hT.ln⟩
   ·rw[if_neg e2] at hb
    rcases h.pool j s hs with⟨_,e⟩|⟨⟨s1,h1,h2⟩,h3⟩
    ·exact absurd hb (e m)
    ·obtain⟨g,hg,hgl⟩:=h3 m hb
     rw[hs0] at h1;injection h1 with h1;subst h1
     rw[h2,hc0] at hgl
     exact⟨g,List.mem_append_left _ hg,hgl⟩
  ·rw[List.getElem?_set_ne (Ne.symm e)] at hs'
   rcases h.pool j s' hs' with h1|⟨h1,h2⟩
   ·exact .inl h1
   ·exact .inr ⟨h1,fun m hb=>by obtain⟨g,hg,e⟩:=h2 m hb;exact⟨g,List.mem_append_left _ hg,e⟩⟩
 ·exact(tset_list h.ti _).1
 ·intro l
  show l∈tLinks (tSet c.Tz (lkOf (fdP p)))↔_
  rw[(tset_list h.ti (lkOf (fdP p))).2.mem_iff,List.mem_append,List.mem_filter,List.mem_singleton,h.tl l]
  have hnk:∀g∈Gs,nk (lkOf (fdP p)).key (lkOf g)=true:=fun g hg=>by
   unfold nk
   simp only[Bool.not_eq_true',decide_eq_false_iff_not]
   exact hkey g hg
  constructor
  ·rintro(⟨⟨g,hg,rfl⟩,_⟩|rfl)
   ·exact⟨g,List.mem_append_left _ hg,rfl⟩
   ·exact⟨fdP p,by simp,rfl⟩
  ·rintro⟨g,hg,rfl⟩
   rcases List.mem_append.1 hg with hg|hg
   ·exact .inl ⟨⟨g,hg,rfl⟩,hnk g hg⟩
   ·rw[List.mem_singleton.1 hg];exact .inr rfl
theorem mv_all {L0:List Slb}(hL:L0.length≤32):∀{Fs Gs:List Fnd} {c:OvC},MV L0 Gs c→(∀f∈Fs,∃p:Int×Blk,f=fdP p∧mayF p.2=true∧p.2.kind=1∧Tk L0 p.1 p.2.cls)→((Gs++Fs).map (·.line)).Nodup→((Gs++Fs).map (·.b.key)).Nodup→∃c',ovAll c Fs=some c'∧MV L0 (Gs++Fs) c'
 |[],Gs,c,h,_,_,_=>⟨c,rfl,by rw[List.append_nil];exact h⟩
 |f::Fs,Gs,c,h,hf,h1,h2=>by
  obtain⟨p,rfl,hm,hk,ht⟩:=hf f (by simp)
  rw[List.map_append,List.nodup_append] at h1 h2
  obtain⟨c',ho,hv⟩:=mv_next h hL hm hk ht (fun g hg e=>h1.2.2 _ (List.mem_map_of_mem hg) _ (List.mem_map_of_mem (List.mem_cons_self)) e) (fun g hg e=>h2.2.2 _ (List.mem_map_of_mem hg) _ (List.mem_map_of_mem (List.mem_cons_self)) e)
  obtain⟨c2,h3,h4⟩:=mv_all hL (Fs:=Fs) hv (fun g hg=>hf g (List.mem_cons_of_mem _ hg)) (by rw[List.append_assoc,List.map_append,List.nodup_append];exact h1) (by rw[List.append_assoc,List.map_append,List.nodup_append];exact h2)
  refine⟨c2,?_,by rw[List.append_assoc] at h4;exact h4⟩
  show(match ov1 c (fdP p) with|none=>none|some c'=>ovAll c' Fs)=some c2
  rw[ho];exact h3
theorem mv0 {L0:List Slb}{n:Nat}(h:L0.length=(slabsF n).toNat):MV L0 [] (ovC0 n):=by
 refine⟨by show(List.replicate _ _).length=_;rw[List.length_replicate,h],fun i s hs=> .inl ?_,tb0_inv,fun l=>?_,rfl⟩
 ·have hs:(List.replicate (slabsF n).toNat slbN)[i]? =some s:=hs
  rw[List.getElem?_replicate] at hs
  split at hs
  ·injection hs with hs
   subst hs
   refine⟨rfl,fun k hk=>?_⟩
   have hk:(List.replicate 8 false)[k]? =some true:=hk
   rw[List.getElem?_replicate] at hk
   split at hk<;>simp at hk
  ·cases hs
 ·show l∈tLinks tb0↔_
  have e:tLinks tb0=[]:=rfl
  rw[e];simp
def SeenL (P:Pub)(i:Nat)(l:List UInt8):Prop:=calmH l∨∃p∈P,p.1=(i:Int)∧l=(encL p.2).take 64
theorem SeenL.mono {P P':Pub}{i:Nat}{l:List UInt8}(h:SeenL P i l)(hP:∀p∈P,p∈P'):SeenL P' i l:=by
 rcases h with h|⟨p,h1,h2⟩
 ·exact .inl h
 ·exact .inr ⟨p,hP p h1,h2⟩
theorem now_at {D:List Ce}{i:Nat}{x:Ce}(h:D[i]? =some x):nowL D (i:Nat)=x.now.1:=by
 unfold nowL
 rw[if_pos om_,Int.toNat_natCast,h];rfl
theorem JB.seen {L:List Slb}{D:List Ce}{P:Pub}(h:JB L D P){i:Nat}(hi:2≤i){x:Ce}(hx:D[i]? =some x):SeenL P i x.now.1:=by
 rw[← now_at hx]
 by_cases hp:∃p∈P,p.1=(i:Int)
 ·obtain⟨p,h1,h2⟩:=hp
  have hm:=(h.may p h1).1
  refine .inr ⟨p,h1,h2,?_⟩
  rw[← h2]
  exact first_line (encL_len hm) (capN_span (may_span hm)).2.1 (h.now p h1)
 ·exact .inl (h.calm i om_ fun p h1 h2=>hp ⟨p,h1,h2⟩)
structure Bd (D:List Ce)(P:Pub)(E:Int):Prop where
 sent:∀(i:Nat) (x:Ce),D[i]? =some x→x.sent=false
 kept:∀i:Nat,2≤i→∀x,D[i]? =some x→SeenL P i x.kept.1
 du:∀p∈P,p.2.ep≤E→∀j:Nat,j<spanF p.2.cls→∀x,D[(p.1+(j:Nat)).toNat]? =some x→x.kept=x.now
structure Hd (D:List Ce)(E:Int):Prop where
 n:10≤D.length∧D.length≤258
 s0:∃x,D[0]? =some x∧x.now.1=superL (D.length:Nat)∧x.kept=x.now
 c1:∃x,D[1]? =some x∧x.now.1=clockL E∧x.kept=x.now
theorem B64.ext {a b:B64}(h:a.1=b.1):a=b:=Subtype.ext h
theorem Bd.lv {D D':List Ce}{L L':List Slb}{P Q:Pub}{E:Int}(h:Bd D P E)(hB:JB L D P)(hB':JB L' D' (P++Q))(hl:DvL D D')(hQ:∀q∈Q,E<q.2.ep):Bd D' (P++Q) E:=by
 refine⟨fun i x hx=>?_,fun i hi x hx=>?_,fun p hp he j hj x hx=>?_⟩
 ·obtain⟨c,hc,_,_,h3,_⟩:=hl.at_ i x hx
  rw[h3];exact h.sent i c hc
 ·obtain⟨c,hc,h1,_⟩:=hl.at_ i x hx
  rw[h1];exact(h.kept i hi c hc).mono fun p hp=>List.mem_append_left _ hp
 ·rcases List.mem_append.1 hp with hp|hp
  ·obtain⟨c,hc,h1,_⟩:=hl.at_ _ x hx
   have hd:=h.du p hp he j hj c hc
   have hm:=(hB.may p hp).1
   have hr:=tk_rng (hB.tk p hp)
   have e1:=lines_part (encL_len hm) (hB.now p hp) j hj
   have e2:=lines_part (encL_len hm) (hB'.now p (List.mem_append_left _ hp)) j hj
   have e3:=now_at hc
   have e4:=now_at hx
   rw[nat_of om_] at e3 e4
   rw[h1,hd]
   exact B64.ext (by rw[← e3,← e4,e1,e2])
  ·have:=hQ p hp;omega
theorem Hd.lv {D D':List Ce}{E:Int}(h:Hd D E)(hl:DvL D D'):Hd D' E:=by
 have hn:=h.n
 have get:∀i:Nat,i<2→∀x,D[i]? =some x→∃y,D'[i]? =some y∧y.now=x.now∧y.kept=x.kept:=fun i hi x hx=>by
  have hlt:i<D'.length:=by rw[hl.len];omega
  obtain⟨c,hc,h1,_,_,h4⟩:=hl.at_ i (D'[i]'hlt) (by simp)
  rw[hx] at hc;injection hc with hc;subst hc
  exact⟨D'[i]'hlt,by simp,h4 hi,h1⟩
 refine⟨by rw[hl.len];exact hn,?_,?_⟩
 ·obtain⟨x,hx,h1,h2⟩:=h.s0
  obtain⟨y,hy,e1,e2⟩:=get 0 om_ x hx
  exact⟨y,hy,by rw[e1,hl.len];exact h1,by rw[e1,e2];exact h2⟩
 ·obtain⟨x,hx,h1,h2⟩:=h.c1
  obtain⟨y,hy,e1,e2⟩:=get 1 om_ x hx
  exact⟨y,hy,by rw[e1];exact h1,by rw[e1,e2];exact h2⟩
def Noted (P:Pub)(N:List Bool)(E:Int):Prop:=∀p∈P,p.2.ep=E→∀j:Nat,j<spanF p.2.cls→N[(p.1+(j:Nat)).toNat]? =some true
theorem cld_line {D0 D:List Ce}{N left:List Bool}{E:Int}{ph:Nat}(h:CLd D0 N E ph left D){P:Pub}{L:List Slb}(hB:JB L D0 P)(hb:Bd D0 P (E-1)){i:Nat}(hi:2≤i){x:Ce}(hx:D[i]? =some x):SeenL P i x.now.1∧SeenL P i x.kept.1:=by
 obtain⟨y,hy,h1,h2,_⟩:=h.at_ i hi x hx
 refine⟨by rw[h1];exact hB.seen hi hy,?_⟩
 rcases h2 with h2|⟨_,h2⟩
 ·rw[h2];exact hb.kept i hi y hy
 ·rw[h2];exact hB.seen hi hy
theorem cld_now {D0 D:List Ce}{N left:List Bool}{E:Int}{ph:Nat}(h:CLd D0 N E ph left D){i:Int}(hi:2≤i):nowL D i=nowL D0 i:=by
 by_cases hr:0≤i∧i<D.length
 ·obtain⟨c,hc,e⟩:=now_get hr
  obtain⟨y,hy,h1,_⟩:=h.at_ i.toNat om_ c hc
  have e2:=now_at hy
  rw[nat_of om_] at e2
  rw[e,e2,h1]
 ·exact now_out h.len (by rw[← h.len];exact hr)
theorem jb_now {L:List Slb}{D D':List Ce}{P:Pub}(h:JB L D P)(hl:D'.length=D.length)(hn:∀i:Int,2≤i→nowL D' i=nowL D i):JB L D' P:=
 ⟨h.may,h.tk,h.one,fun p hp=>(lines_now fun j hj=>hn _ (by have:=tk_rng (h.tk p hp);omega)).trans (h.now p hp),fun i hi hp=>by rw[hn i hi];exact h.calm i hi hp,by rw[hl];exact h.fit⟩
theorem closed {D0 D:List Ce}{N left:List Bool}{E:Int}(h:CLd D0 N E 0 left D){P:Pub}{L:List Slb}(hB:JB L D0 P)(hb:Bd D0 P (E-1))(hh:Hd D0 (E-1))(hN:Noted P N E)(hP:∀p∈P,p.2.ep≤E):JB L D P∧Bd D P E∧Hd D E:=by
 have hn:=hh.n
 refine⟨jb_now hB h.len fun i hi=>cld_now h hi,⟨h.sn (by decide) (by decide),fun i hi x hx=>(cld_line h hB hb hi hx).2,fun p hp he j hj x hx=>?_⟩,by rw[h.len];exact hn,?_,?_⟩
 ·have hr:=tk_rng (hB.tk p hp)
  obtain⟨y,hy,h1,h2,_,h4⟩:=h.at_ (p.1+(j:Nat)).toNat om_ x hx
  by_cases e:p.2.ep=E
  ·rw[(h4 (hN p hp e j hj)).2 (by decide),h1]
  ·have hd:=hb.du p hp om_ j hj y hy
   rcases h2 with h2|⟨_,h2⟩
   ·rw[h2,hd,h1]
   ·rw[h2,h1]
 ·have hlt:0<D.length:=by rw[h.len];omega
  obtain⟨y,hy,h1,h2,h3⟩:=h.d0 (D[0]'hlt) (by simp)
  obtain⟨z,hz,e1,e2⟩:=hh.s0
  rw[hz] at hy;injection hy with hy;subst hy
  exact⟨D[0]'hlt,by simp,by rw[h1,h.len];exact e1,by rw[h1,h2];exact e2⟩
 ·have hlt:1<D.length:=by rw[h.len];omega
  obtain⟨y,hy,h1⟩:=h.d1 (D[1]'hlt) (by simp)
  obtain⟨e1,e2,e3⟩:=h1.d rfl
  exact⟨D[1]'hlt,by simp,e1,e2⟩
theorem getN_clock {E:Int}(h:0≤E∧E<18446744073709551616):getN (clockL E) 1 8=E:=by
 rw[getN_num (clockL E) 1 om_ (by rw[clockL_len];omega),clock_whole h]
 unfold wholeF
 rw[List.cons_append,List.cons_append,List.drop_succ_cons,List.drop_zero,List.append_assoc,List.take_append_of_le_length (by rw[layF_len];exact Nat.le_refl _),List.take_of_length_le (by rw[layF_len];exact Nat.le_refl _)]
 exact lay8 h
theorem clock_yes {b:B64}{E:Int}(h:0≤E∧E<18446744073709551616)(hb:b.1=clockL E):isClockF b=(E,true):=by
 unfold isClockF
 rw[hb,getN_clock h,if_pos rfl]
theorem open_is {D:List Ce}{E:Int}(hn:10≤D.length∧D.length≤258)(hE:0≤E∧E≤1152921504606846976){x y:Ce}(hx:D[0]? =some x)(h0:x.now.1=superL (D.length:Nat))(hy:D[1]? =some y)(h1:y.now.1=clockL E):openF D=(E,0):=by
 unfold openF
 rw[hx,hy]
 simp only
 rw[super_yes om_ h0.symm,clock_yes om_ h1]
 simp only
 rw[if_neg (by simp),if_neg (by simp),if_neg om_]
theorem cut_line {D:List Ce}{keep:List Int}{i:Nat}{x:Ce}(h:(cutD D keep)[i]? =some x):∃c,D[i]? =some c∧(x.now=c.now∨x.now=c.kept):=by
 unfold cutD at h
 rw[List.getElem?_mapIdx] at h
 obtain⟨c,hc,rfl⟩:=Option.map_eq_some_iff.1 h
 refine⟨c,hc,?_⟩
 unfold cutC
 simp only
 split
 ·exact .inl rfl
 ·exact .inr rfl
theorem cut_at {D:List Ce}(keep:List Int){i:Nat}{c:Ce}(h:D[i]? =some c):∃x,(cutD D keep)[i]? =some x∧(x.now=c.now∨x.now=c.kept):=by
 have hl:i<(cutD D keep).length:=by rw[cutD_len];exact(List.getElem?_eq_some_iff.1 h).1
 obtain⟨c',hc,hx⟩:=cut_line (keep:=keep) (x:=(cutD D keep)[i]'hl) (i:=i) (D:=D) (by simp)
 rw[h] at hc;injection hc with hc;subst hc
 exact⟨_,by simp,hx⟩
theorem cut_closing {D0 D:List Ce}{N left:List Bool}{E:Int}{ph:Nat}(h:CLd D0 N E ph left D)(hph:ph≤4){P:Pub}{L:List Slb}(hB:JB L D0 P)(hb:Bd D0 P (E-1))(hh:Hd D0 (E-1))(hN:Noted P N E)(hP:∀p∈P,p.2.ep≤E)(hE:1≤E∧E≤1000)
 (hL:L.length≤slabsF D0.length)(hL2:L.length≤32)(hinj:∀p∈P,∀q∈P,p.2.ver=q.2.ver→p=q)(keep:List Int):∃E',(E'=E-1∨(E'=E∧ph≠1))∧openF (cutD D keep)=(E',0)∧FD (cutD D keep) P E':=by
 have hn:=hh.n
 have hlen:(cutD D keep).length=D0.length:=(cutD_len _ _).trans h.len
 obtain⟨x0,hx0,e0⟩:∃x,(cutD D keep)[0]? =some x∧x.now.1=superL ((cutD D keep).length:Nat):=by
  have hlt:0<D.length:=by rw[h.len];omega
  obtain⟨y,hy,h1,h2,_⟩:=h.d0 (D[0]'hlt) (by simp)
  obtain⟨z,hz,e1,e2⟩:=hh.s0
  rw[hz] at hy;injection hy with hy;subst hy
  obtain⟨x,hx,e⟩:=cut_at keep (List.getElem?_eq_getElem hlt)
  refine⟨x,hx,?_⟩
  rcases e with e|e
  ·rw[e,h1,hlen];exact e1
  ·rw[e,h2,e2,hlen];exact e1
 obtain⟨x1,E',hx1,e1,hE'⟩:∃x E',(cutD D keep)[1]? =some x∧x.now.1=clockL E'∧(E'=E-1∨(E'=E∧ph≠1)):=by
  have hlt:1<D.length:=by rw[h.len];omega
  obtain⟨y,hy,h1⟩:=h.d1 (D[1]'hlt) (by simp)
  obtain⟨z,hz,e1,e2⟩:=hh.c1
  rw[hz] at hy;injection hy with hy;subst hy
  obtain⟨x,hx,e⟩:=cut_at keep (List.getElem?_eq_getElem hlt)
  by_cases h12:ph=1∨ph=2
  ·obtain⟨a1,a2,_⟩:=h1.a h12
   refine⟨x,E-1,hx,?_,.inl rfl⟩
   rcases e with e|e
   ·rw[e,a1];exact e1
   ·rw[e,a2,e2];exact e1
  ·by_cases h34:ph=3∨ph=4
   ·obtain⟨a1,a2⟩:=h1.b h34
    rcases e with e|e
    ·exact⟨x,E,hx,by rw[e];exact a1,.inr ⟨rfl,by omega⟩⟩
    ·exact⟨x,E-1,hx,by rw[e,a2,e2];exact e1,.inl rfl⟩
   ·obtain⟨a1,a2,_⟩:=h1.d om_
    refine⟨x,E,hx,?_,.inr ⟨rfl,by omega⟩⟩
    rcases e with e|e
    ·rw[e];exact a1
    ·rw[e,a2];exact a1
 refine⟨E',hE',open_is (by rw[hlen];exact hn) (by rcases hE' with e|⟨e,_⟩<;>omega) hx0 e0 hx1 e1,fun p hp=>hB.may p hp,fun p hp=>tk_home (hB.tk p hp),fun p hp=>?_,hinj,fun p hp he=>?_,fun i hi=>?_⟩
 ·have hr:=tk_rng (hB.tk p hp)
  rw[hlen];omega
 ·have hr:=tk_rng (hB.tk p hp)
  refine Eq.trans (lines_now fun j hj=>?_) (hB.now p hp)
  have hf:=hB.fit
  obtain⟨y,hy⟩:∃y,D[(p.1+(j:Nat)).toNat]? =some y:=⟨D[(p.1+(j:Nat)).toNat]'(by rw[h.len];omega),by simp⟩
  obtain⟨x,hx,e⟩:=cut_at keep hy
  obtain⟨z,hz,a1,a2,_,a4⟩:=h.at_ _ om_ y hy
  have hkz:y.kept=z.now:=by
   by_cases hep:p.2.ep=E
   ·rcases hE' with e9|⟨e9,h9⟩
    ·omega
    ·exact(a4 (hN p hp hep j hj)).2 h9
   ·have hd:=hb.du p hp (by have:=hP p hp;omega) j hj z hz
    rcases a2 with a2|⟨_,a2⟩
    ·rw[a2,hd]
    ·exact a2
  have e3:=now_at hx
  have e4:=now_at hz
  rw[nat_of om_] at e3 e4
  rw[e3,e4]
  rcases e with e|e
  ·rw[e,a1]
  ·rw[e,hkz]
 ·by_cases hr:i<(cutD D keep).length
  ·obtain⟨x,hx⟩:∃x,(cutD D keep)[i.toNat]? =some x:=⟨(cutD D keep)[i.toNat]'om_,by simp⟩
   obtain⟨y,hy,e⟩:=cut_line hx
   obtain⟨s1,s2⟩:=cld_line h hB hb om_ hy
   have e3:=now_at hx
   rw[nat_of om_] at e3
   have hs:SeenL P i.toNat x.now.1:=by rcases e with e|e<;>rw[e]<;>assumption
   rw[e3]
   rcases hs with hs|⟨p,h1,h2,h3⟩
   ·exact .inl hs
   ·exact .inr ⟨p,h1,by omega,h3⟩
  ·left
   have:nowL (cutD D keep) i=[]:=by
    unfold nowL
    rw[if_pos om_,List.getElem?_eq_none om_];rfl
   rw[this]
   intro c k hh
   cases hh
theorem nodup_on {α β:Type}{f:α→β}:∀{l:List α},l.Nodup→(∀a∈l,∀b∈l,f a=f b→a=b)→(l.map f).Nodup
 |[],_,_=>List.nodup_nil
 |a::l,h,hf=>by
  rw[List.nodup_cons] at h
  rw[List.map_cons,List.nodup_cons]
  refine⟨fun hm=>?_,nodup_on h.2 fun x hx y hy=>hf x (List.mem_cons_of_mem _ hx) y (List.mem_cons_of_mem _ hy)⟩
  obtain⟨b,hb,e⟩:=List.mem_map.1 hm
  have:=hf b (List.mem_cons_of_mem _ hb) a List.mem_cons_self e
  subst this
  exact h.1 hb
theorem kp_lines (E:Int)(D:List Ce):((decK E (fdA D)).map (·.line)).Nodup:=by
 have h:(decK E (fdA D)).Pairwise fun a b=>a.line<b.line:=by
  unfold decK
  exact(fds_rise D _).filter _
 rw[List.Nodup,List.pairwise_map]
 exact h.imp fun hab e=>by omega
theorem nodup_of_lines {l:List Fnd}(h:(l.map (·.line)).Nodup):l.Nodup:=by
 rw[List.Nodup,List.pairwise_map] at h
 exact h.imp fun hab e=>hab (by rw[e])
theorem revive_ok {v:Dev}{P:Pub}{E:Int}(hln:10≤v.D.length∧v.D.length≤258)(ho:openF v.D=(E,0))(hF:FD v.D P E){L0:List Slb}(hL:L0.length=(slabsF v.D.length).toNat)(h32:L0.length≤32)(htk:∀p∈P,Tk L0 p.1 p.2.cls)(hid:∀p∈P,p.2.id≤1000∧p.2.ver≤1000)
 (hkey:∀p q,LiveE P E p→LiveE P E q→p.2.key=q.2.key→p=q){k:Nat}(h6:6≤(runN v cor0 k).2.ph):
 (runN v cor0 k).2.ph=6∧(runN v cor0 k).2.e=E∧(runN v cor0 k).2.kp=kpA v.D∧∃c,ovAll (ovC0 v.D.length) (kpA v.D)=some c∧tInv c.Tz∧(∀l,l∈tLinks c.Tz↔∃p,LiveE P E p∧l=lkP p)∧c.q=[]:=by
 have hE:(openF v.D).1=E:=by rw[ho]
 have hkp:kpA v.D=decK E (fdA v.D):=by unfold kpA;rw[hE]
 have hmem:∀f,f∈kpA v.D↔∃p,LiveE P E p∧f=fdP p:=fun f=>by rw[hkp];exact kp_mem hF f
 have hlines:((kpA v.D).map (·.line)).Nodup:=by rw[hkp];exact kp_lines _ _
 have hkeys:((kpA v.D).map (·.b.key)).Nodup:=by
  refine nodup_on (nodup_of_lines hlines) fun f hf g hg e=>?_
  obtain⟨p,hp,rfl⟩:=(hmem f).1 hf
  obtain⟨q,hq,rfl⟩:=(hmem g).1 hg
  rw[hkey p q hp hq e]
 obtain⟨c,hc,hM⟩:=mv_all h32 (mv0 (n:=v.D.length) hL) (Fs:=kpA v.D) (fun f hf=>by
  obtain⟨p,hp,rfl⟩:=(hmem f).1 hf
  exact⟨p,rfl,(hF.may p hp.mem).1,hp.map,htk p hp.mem⟩) (by rw[List.nil_append];exact hlines) (by rw[List.nil_append];exact hkeys)
 rw[List.nil_append] at hM
 have hfar:ovFar (kpA v.D)=false:=by
  unfold ovFar
  refine List.any_eq_false.2 fun f hf=>?_
  obtain⟨p,hp,rfl⟩:=(hmem f).1 hf
  have h8:=hid p hp.mem
  have e1:(fdP p).b.id=p.2.id:=rfl
  have e2:(fdP p).b.ver=p.2.ver:=rfl
  simp only[Bool.or_eq_true,decide_eq_true_eq,e1,e2]
  omega
 have hov:ovE v.D.length (kpA v.D)=0:=by
  unfold ovE
  rw[if_neg (by rw[hfar];decide),hc];rfl
 obtain⟨r1,r2⟩:=run_end (v:=v) om_ h6
 have h66:=r1.2 ⟨by rw[ho],hov⟩
 obtain⟨r3,r4,r5⟩:=r2 h66
 refine⟨h66,r3.trans hE,r4,c,hc,hM.ti,fun l=>?_,hM.q⟩
 rw[hM.tl l]
 constructor
 ·rintro⟨g,hg,rfl⟩
  obtain⟨p,hp,rfl⟩:=(hmem g).1 hg
  exact⟨p,hp,rfl⟩
 ·rintro⟨p,hp,rfl⟩
  exact⟨fdP p,(hmem _).2 ⟨p,hp,rfl⟩,rfl⟩
theorem pairs_same {T1 T2:Tbl}(h1:tInv T1)(h2:tInv T2)(hm:∀l,l∈tLinks T1↔l∈tLinks T2){D1 D2:List Ce}(hd:∀l∈tLinks T1,decF (linesL D1 l.line (spanF l.cls))=decF (linesL D2 l.line (spanF l.cls)))
 {A B:List Lk}(hA:A.Perm (tLinks T1))(uA:UpL A)(hB:B.Perm (tLinks T2))(uB:UpL B):pairsOf D1 A=pairsOf D2 B:=by
 have nd:∀{T:Tbl},tInv T→(tLinks T).Nodup:=fun h=>by
  have:=h.nd
  rw[List.Nodup,List.pairwise_map] at this
  exact this.imp fun hab e=>hab (by rw[e])
 have hp:(tLinks T1).Perm (tLinks T2):=(List.perm_ext_iff_of_nodup (nd h1) (nd h2)).2 hm
 have e:A=B:=upL_uniq (hA.trans (hp.trans hB.symm)) uA uB (fun a ha=>hA.subset ha) h1.nd
 subst e
 have hb:∀l∈A,valB D1 l=valB D2 l∧∀k,valK D1 l k=valK D2 l k:=fun l hl=>by
  have h8:=hd l (hA.subset hl)
  have e:valB D1 l=valB D2 l:=by unfold valB;rw[h8]
  exact⟨e,fun k=>by unfold valK;rw[e,h8]⟩
 unfold pairsOf
 refine fm_congr fun l hl=>?_
 obtain⟨e1,e2⟩:=hb l hl
 rw[e1,e2]
def ck0 (th:Nat):Ck:=⟨1,0,0,List.replicate th 0,List.replicate 258 false,List.replicate 258 false,0⟩
def as0 (th n:Nat):AS:=⟨List.replicate (slabsF n).toNat slbN,⟨1,List.replicate th 0⟩,ck0 th,[],tb0,List.replicate 4 [],[],0,0,[]⟩
theorem arG0 (th n:Nat)(hn:10≤n)(x:ArR)(hx:x.ms.length=8):ArG th n x ({ar0 th n 0 with dn:=1}) (as0 th n):=⟨{ar0_ok th n x hx 0 hn with},⟨rfl,rfl,rfl,rfl,rfl,rfl,rfl,rfl,rfl,rfl⟩,Nat.zero_le _⟩
theorem upD_at {D:List Ce}{k i:Nat}{f:Ce→Ce}:(upD D (k:Nat) f)[i]? =if k=i then D[i]?.map f else D[i]? :=by
 unfold upD
 rw[if_pos om_,Int.toNat_natCast,List.getElem?_modify]
 split
 ·rfl
 ·simp
theorem stD_at {D:List Ce}{k i:Nat}{bs:List UInt8}(hk:k<D.length)(hb:bs.length=64):(stD D (k:Nat) 0 bs)[i]? =if k=i then D[i]?.map (fun c=>{c with now:=⟨bs,hb⟩}) else D[i]? :=by
 have e:stD D (k:Nat) 0 bs=upD D (k:Nat) (fun c=>{c with now:=⟨bs,hb⟩}):=by
  unfold stD
  rw[if_pos (by unfold thB;rw[hb];simp;omega)]
  congr 1
  funext c
  rw[show(0:Int).toNat=0 from rfl,putT_of om_]
  congr 1
  apply Subtype.ext
  unfold putB
  simp[hb,c.now.2]
 rw[e,upD_at]
theorem superL_len (x:Int):(superL x).length=64:=sealL_len (by rw[putN_len];decide)
theorem new_at (n:Nat)(hn:10≤n)(i:Nat):(fmtV (newV n)).D[i]? =if i<n then some (if i=0 then⟨⟨superL n,superL_len _⟩,⟨superL n,superL_len _⟩,⟨superL n,superL_len _⟩,false⟩ else if i=1 then⟨⟨clockL 0,clockL_len _⟩,⟨clockL 0,clockL_len _⟩,⟨clockL 0,clockL_len _⟩,false⟩ else ce0) else none:=by
 have hl:(newV n).D.length=n:=List.length_replicate
 have e:(fmtV (newV n)).D=((upD (upD (stD (stD (newV n).D ((0:Nat):Int) 0 (superL ((newV n).D.length:Nat))) ((1:Nat):Int) 0 (clockL 0)) ((0:Nat):Int) fun c=>{c with way:=c.now,sent:=true}) ((1:Nat):Int) fun c=>{c with way:=c.now,sent:=true}).map fenB):=rfl
 rw[e,List.getElem?_map,upD_at,upD_at,stD_at (by rw[stD_len,hl];omega) (clockL_len 0),stD_at (by rw[hl];omega) (superL_len _),hl]
 have hD:(newV n).D[i]? =if i<n then some ce0 else none:=List.getElem?_replicate
 rw[hD]
 by_cases h:i<n
 ·rw[if_pos h,if_pos h]
  by_cases h0:i=0
  ·subst h0;rfl
  ·by_cases h1:i=1
   ·subst h1;rfl
   ·rw[if_neg om_,if_neg om_,if_neg om_,if_neg om_,if_neg h0,if_neg h1];rfl
 ·rw[if_neg h,if_neg h]
  repeat(first|rfl|(rw[if_neg om_])|split)
theorem calm_zero:calmH z64.1:=fun c k h=>by
 have:headF z64.1=none:=by decide
 rw[this] at h;cases h
theorem new_jb (n:Nat)(hn:10≤n∧n≤258):JB (List.replicate (slabsF n).toNat slbN) (fmtV (newV n)).D []:=by
 have hl:(fmtV (newV n)).D.length=n:=(fmtV_len _).trans List.length_replicate
 refine⟨fun p hp=>(by cases hp),fun p hp=>(by cases hp),fun p hp=>(by cases hp),fun p hp=>(by cases hp),fun i hi _=>?_,?_⟩
 ·have h8:=new_at n hn.1 i.toNat
  unfold nowL
  rw[if_pos om_,h8]
  split
  ·rw[if_neg om_,if_neg om_]
   exact calm_zero
  ·intro c k h;cases h
 ·rw[List.length_replicate,hl]
  unfold slabsF
  rw[if_neg om_]
  omega
theorem new_bd (n:Nat)(hn:10≤n∧n≤258):Bd (fmtV (newV n)).D [] 0∧Hd (fmtV (newV n)).D 0:=by
 have hl:(fmtV (newV n)).D.length=n:=(fmtV_len _).trans List.length_replicate
 refine⟨⟨fun i x hx=>?_,fun i hi x hx=>?_,fun p hp=>(by cases hp)⟩,by rw[hl];exact hn,?_,?_⟩
 ·rw[new_at n hn.1] at hx
  split at hx
  ·injection hx with hx
   subst hx
   split
   ·rfl
   ·split<;>rfl
  ·cases hx
 ·rw[new_at n hn.1] at hx
  split at hx
  ·injection hx with hx
   subst hx
   rw[if_neg om_,if_neg om_]
   exact .inl calm_zero
  ·cases hx
 ·have h8:=new_at n hn.1 0
  rw[if_pos om_,if_pos rfl] at h8
  exact⟨_,h8,by rw[hl],rfl⟩
 ·have h8:=new_at n hn.1 1
  rw[if_pos om_,if_neg (by decide),if_pos rfl] at h8
  exact⟨_,h8,rfl,rfl⟩
theorem rep_no {α:Type}{m i:Nat}{x y:α}(h:(List.replicate m x)[i]? =some y):y=x:=by
 rw[List.getElem?_replicate] at h
 split at h
 ·injection h with h;exact h.symm
 ·cases h
theorem new_st (n:Nat)(hn:10≤n∧n≤258):ST n (as0 2 n) (fmtV (newV n)) []:=by
 have hs:=slabs_rng hn.1
 refine⟨⟨rfl,fun i p h=>by simp at h,fun p hp=>(by cases hp),Int.le_refl _,fun l=>?_,fun p hp=>(by cases hp),fun p hp=>(by cases hp),fun i hi=>?_,rfl⟩,new_jb n hn,⟨⟨rfl,rfl,rfl⟩,⟨⟨fun _=>rfl,fun _=>rfl⟩,by show(0:Nat)≤4;omega⟩,rfl,slN_ok _ om_,by show(List.replicate _ _).length=_;rw[List.length_replicate],tb0_inv,rfl,Nat.le_refl _,fun l hl=>?_,Nat.le_refl _,Nat.le_refl _,Nat.le_refl _,by show(0:Int)≤0∧(0:Int)≤_;omega,by show(0:Int)≤0∧(0:Int)≤_;omega⟩,by show(0:Int)≤1∧(1:Int)≤100;omega⟩
 ·constructor
  ·intro h
   have e:tLinks (as0 2 n).Tz=[]:=rfl
   rw[e] at h;cases h
  ·rintro⟨p,hp,_⟩
   cases hp.mem
 ·have:=rep_no (show(List.replicate 258 false)[i]? =some true from hi)
  cases this
 ·obtain rfl:=List.eq_of_mem_replicate hl
  exact Nat.le_refl _
def clA (a:AS)(v:Dev)(m:Nat):AS×Dev:=({a with ck:=(clN m (kBegin a.ck,v)).1},(clN m (kBegin a.ck,v)).2)
theorem cl_start {n:Nat}{a:AS}{v:Dev}{P:Pub}{e:Int}(hS:ST n a v P)(hb:Bd v.D P (e-1))(he:a.ck.now=e)(h0:a.ck.clo=0)(h1:1≤e):CL v.D a.ck.noted e (kBegin a.ck) (kBegin a.ck,v)∧(kBegin a.ck).now=e+1∧(kBegin a.ck).noted=List.replicate 258 false∧potK (kBegin a.ck)=a.ck.noted.count true+4:=by
 have hn:=hS.now
 have hB:kBegin a.ck={a.ck with now:=IntKind.u64.wrap (a.ck.now+1),clo:=a.ck.now,owed:=List.replicate a.ck.owed.length 0,noted:=List.replicate 258 false,left:=a.ck.noted,ph:=1}:=by unfold kBegin;rw[if_pos h0]
 have hw:IntKind.u64.wrap (a.ck.now+1)=a.ck.now+1:=IntWalk.u64_in _ om_
 rw[hB,hw]
 refine⟨⟨⟨rfl,fun i h=>h,fun x hx=>⟨x,hx,rfl,rfl,hb.sent 0 x hx⟩,fun x hx=>⟨x,hx,fun _=>⟨rfl,rfl,hb.sent 1 x hx⟩,fun h=>absurd (show(1:Nat)=3∨(1:Nat)=4 from h) (by decide),fun h=>absurd (show(1:Nat)=3 from h) (by decide),fun h=>absurd (show(1:Nat)=4 from h) (by decide),fun h=>absurd (show(1:Nat)=0 from h) (by decide)⟩,fun i hi x hx=>⟨x,hx,rfl,.inl rfl,fun h=>?_,fun hN=>⟨fun _=> .inl hN,fun h=>absurd rfl h⟩⟩,fun h=>absurd rfl h⟩,by show(1:Nat)≤4;omega,he,rfl,rfl,rfl,rfl⟩,by show a.ck.now+1=_;omega,rfl,?_⟩
 ·rw[hb.sent i x hx] at h;cases h
 ·unfold potK
  simp only
  rw[if_neg om_,if_pos trivial]
theorem clN_ok {th:Nat}{z:Ck×Dev}(h:z.1.Ok th):∀m,(clN m z).1.Ok th
 |0=>h
 |m+1=>kStep_ok (clN_ok h m) _
theorem cl_all {n:Nat}{a:AS}{v:Dev}{P:Pub}{e:Int}(hS:ST n a v P)(hb:Bd v.D P (e-1))(he:a.ck.now=e)(h0:a.ck.clo=0)(h1:1≤e∧e≤50)(m:Nat):
 ST n (clA a v m).1 (clA a v m).2 P∧CL v.D a.ck.noted e (kBegin a.ck) (clN m (kBegin a.ck,v))∧(clA a v m).1.ck.now=e+1∧(clA a v m).2.D.length=v.D.length∧potK (clN m (kBegin a.ck,v)).1=a.ck.noted.count true+4-m:=by
 obtain⟨hC,hnow,hnt,hpo⟩:=cl_start hS hb he h0 h1.1
 have hN:∀i:Nat,a.ck.noted[i]? =some true→2≤i:=fun i hi=>(hS.jn.rng i hi).1
 obtain⟨hm,hp⟩:=clN_cl hC om_ hN m
 have hok:(clN m (kBegin a.ck,v)).1.Ok 2:=clN_ok (z:=(kBegin a.ck,v)) (kBegin_ok hS.inn.ck) m
 have e1:(clA a v m).1.ck=(clN m (kBegin a.ck,v)).1:=rfl
 have e2:(clN m (kBegin a.ck,v)).1.now=e+1:=hm.same.1.trans hnow
 have e3:(clN m (kBegin a.ck,v)).1.noted=List.replicate 258 false:=hm.same.2.2.trans hnt
 have hJB:JB a.L (clA a v m).2.D P:=jb_now hS.jb hm.d.len fun i hi=>cld_now hm.d hi
 refine⟨⟨⟨hS.jn.ver,hS.jn.vers,hS.jn.ids,hS.jn.idn,hS.jn.tab,fun p hp=>?_,fun p hp h=>?_,fun i hi=>?_,hS.jn.q⟩,hJB,⟨hok,?_,hS.inn.rd,hS.inn.pl,hS.inn.sl,hS.inn.tb,hS.inn.D4,hS.inn.t,hS.inn.d,hS.inn.q,hS.inn.b,hS.inn.e,hS.inn.id,hS.inn.ver⟩,by rw[e1,e2];omega⟩,hm,e2,hm.d.len,by rw[hp];exact congrArg (· - m) hpo⟩
 ·rw[e1,e2]
  have:=hS.jn.ep p hp
  omega
 ·rw[e1,e2] at h
  have:=hS.jn.ep p hp
  omega
 ·rw[e1,e3] at hi
  have:=rep_no hi
  cases this
 ·rw[e1]
  have h8:=hm.clo
  refine⟨⟨fun h=>?_,fun h=>?_⟩,hm.ph⟩
  ·by_cases h9:(clN m (kBegin a.ck,v)).1.ph=0
   ·exact h9
   ·rw[if_neg h9] at h8;omega
  ·rw[if_pos h] at h8;exact h8
theorem count_rng {l:List Bool}{m:Nat}(h:∀i:Nat,l[i]? =some true→2≤i∧i<2+m):l.count true≤m:=by
 have e:l=l.take 2++((l.drop 2).take m++(l.drop 2).drop m):=by rw[List.take_append_drop,List.take_append_drop]
 rw[e,List.count_append,List.count_append]
 have h1:(l.take 2).count true=0:=List.count_eq_zero.2 fun hm=>by
  obtain⟨i,hi⟩:=List.mem_iff_getElem?.1 hm
  rw[List.getElem?_take] at hi
  split at hi
  ·have:=(h i hi).1;omega
  ·cases hi
 have h2:((l.drop 2).drop m).count true=0:=List.count_eq_zero.2 fun hm=>by
  obtain⟨i,hi⟩:=List.mem_iff_getElem?.1 hm
  rw[List.getElem?_drop,List.getElem?_drop] at hi
  have:=(h _ hi).2;omega
 have h3:((l.drop 2).take m).count true≤((l.drop 2).take m).length:=List.count_le_length
 rw[List.length_take] at h3
 omega
theorem cl_full {n:Nat}{a:AS}{v:Dev}{P:Pub}{e:Int}(hS:ST n a v P)(hb:Bd v.D P (e-1))(hh:Hd v.D (e-1))(he:a.ck.now=e)(h0:a.ck.clo=0)(h1:1≤e∧e≤50){m:Nat}(hm:8*a.L.length+4≤m):
 Bd (clA a v m).2.D P e∧Hd (clA a v m).2.D e∧(clA a v m).1.ck.clo=0:=by
 obtain⟨_,hC,_,_,hp⟩:=cl_all hS hb he h0 h1 m
 have hc:=count_rng hS.jn.rng
 have hz:potK (clN m (kBegin a.ck,v)).1=0:=by rw[hp];omega
 have hclo:=hC.clo
 have hph:(clN m (kBegin a.ck,v)).1.ph=0:=by
  by_cases h9:(clN m (kBegin a.ck,v)).1.ph=0
  ·exact h9
  ·exfalso
   rw[if_neg h9] at hclo
   have h8:=hC.ph
   unfold potK at hz
   rw[if_neg om_] at hz
   split at hz<;>omega
 rw[if_pos hph] at hclo
 have hd:=hC.d
 rw[hph] at hd
 obtain⟨_,h2,h3⟩:=closed hd hS.jb hb hh (fun p hp he2 j hj=>hS.jn.noted p hp (he2.trans he.symm) j hj) (fun p hp=>by have:=(hS.jn.ep p hp).2;omega)
 exact⟨h2,h3,hclo⟩
theorem shP_st {n:Nat}{a:AS}{v:Dev}{P:Pub}{x:ArR}{s:ArS}(hS:ST n a v P)(hn:v.D.length=n)(hP:P.length≤900)(hG:ArG 2 n x s a):∃Pr,ShP v.D (x,s) Pr []∧∀A:List Lk,A.Perm (tLinks a.Tz)→UpL A→pairsOf v.D A=Pr:=by
 obtain⟨Pr,h1,h2⟩:=ex_P v.D (tLinks a.Tz) hS.inn.tb.nd
 have ht:=hS.inn.t
 refine⟨Pr,⟨by rw[hn];exact hG.ok,by show tStp s.Tz;rw[hG.is.Tz];exact hS.inn.tb.st,by show(tLinks s.Tz).length≤_;rw[hG.is.Tz];omega,by show(rgQ s.rg).length≤_;rw[hG.is.q,hS.jn.q];exact Nat.zero_le _,⟨fun l hl=>?_,fun l hl=>?_⟩,fun L hL hU=>?_,?_,by omega,Nat.zero_le _⟩,h2⟩
 ·have hl:l∈tLinks s.Tz:=hl
  rw[hG.is.Tz] at hl
  have:=hS.link hl
  omega
 ·have hl:l∈rgQ s.rg:=hl
  rw[hG.is.q,hS.jn.q] at hl;cases hl
 ·have hL:L.Perm (tLinks s.Tz):=hL
  rw[hG.is.Tz] at hL
  exact h2 L hL hU
 ·show textsOf v.D (rgQ s.rg)=[]
  rw[hG.is.q,hS.jn.q];rfl
theorem synced {n:Nat}{a1 a3:AS}{v1 v3:Dev}{P Q:Pub}{e:Int}(hn:10≤n∧n≤258)(hS1:ST n a1 v1 P)(hS3:ST n a3 v3 (P++Q))(hl1:v1.D.length=n)(hl3:v3.D.length=n)(hb:Bd v3.D (P++Q) (e-1))(hh:Hd v3.D (e-1))(he:a3.ck.now=e)(h0:a3.ck.clo=0)(h1:1≤e∧e≤50)
 (hP:∀p∈P,p.2.ep<e)(hQ:∀q∈Q,q.2.ep=e)(hPn:(P++Q).length≤700)(m:Nat)(keep:List Int){k:Nat}(h6:6≤(runN ((clA a3 v3 m).2.cut keep) cor0 k).2.ph)
 {P1 P2:List (List UInt8×List UInt8)}(hn1:P1.length≤1000)(hp1:∀A:List Lk,A.Perm (tLinks a1.Tz)→UpL A→pairsOf v1.D A=P1)(hn2:P2.length≤1000)(hp4:∀A:List Lk,A.Perm (tLinks (clA a3 v3 m).1.Tz)→UpL A→pairsOf (clA a3 v3 m).2.D A=P2):
 ∃E,(E=e-1∨E=e)∧(runN ((clA a3 v3 m).2.cut keep) cor0 k).2.ph=6∧(runN ((clA a3 v3 m).2.cut keep) cor0 k).2.e=E∧
  ∀y:ArR×ArS,OvA 2 n E (runN ((clA a3 v3 m).2.cut keep) cor0 k).2.kp y→ShP (runN ((clA a3 v3 m).2.cut keep) cor0 k).1.D y (if E=e then P2 else P1) []:=by
 obtain⟨hS4,hC,_,hl4,_⟩:=cl_all hS3 hb he h0 h1 m
 have hl4:(clA a3 v3 m).2.D.length=n:=hl4.trans hl3
 have hsl:=hS3.inn.sl
 have hs32:=slabs_rng hn.1
 obtain⟨E,hE,ho,hF⟩:=cut_closing hC.d hC.ph hS3.jb hb hh (fun p hp he2 j hj=>hS3.jn.noted p hp (he2.trans he.symm) j hj) (fun p hp=>by have:=(hS3.jn.ep p hp).2;omega) om_ (by rw[hl3,hsl];omega) (by rw[hsl];omega) (fun p hp q hq e=>hS3.jn.inj hp hq e) keep
 have hE:E=e-1∨E=e:=by rcases hE with h|⟨h,_⟩<;>omega
 have hlv:((clA a3 v3 m).2.cut keep).D.length=n:=(Dev.cut_len _ _).trans hl4
 have hlive:∀p,LiveE (P++Q) E p↔(if E=e then Live (P++Q) p else Live P p):=by
  intro p
  have hall:∀q∈P++Q,q.2.ep≤e:=fun q hq=>by
   rcases List.mem_append.1 hq with hq|hq
   ·have:=hP q hq;omega
   ·have:=hQ q hq;omega
  split
  ·rename_i h
   subst h
   exact⟨fun h=>⟨h.mem,h.map,fun q hq=>h.top q hq (hall q hq)⟩,fun h=>⟨h.mem,hall p h.mem,h.map,fun q hq _=>h.top q hq⟩⟩
  ·rename_i h
   have hin:∀q,q∈P++Q→q.2.ep≤E→q∈P:=fun q hq hq2=>by
    rcases List.mem_append.1 hq with hq|hq
    ·exact hq
    ·have:=hQ q hq;omega
   exact⟨fun h2=>⟨hin p h2.mem h2.ep,h2.map,fun q hq=>h2.top q (List.mem_append_left _ hq) (by have:=hP q hq;omega)⟩,fun h2=>⟨List.mem_append_left _ h2.mem,by have:=hP p h2.mem;omega,h2.map,fun q hq hq2=>h2.top q (hin q hq hq2)⟩⟩
 let aE:=if E=e then(clA a3 v3 m).1 else a1
 let vE:=if E=e then(clA a3 v3 m).2 else v1
 have hT:tInv aE.Tz∧(∀l,l∈tLinks aE.Tz↔∃p,LiveE (P++Q) E p∧l=lkP p)∧(∀p,LiveE (P++Q) E p→linesL vE.D p.1 (spanF p.2.cls)=encL p.2)∧∀A:List Lk,A.Perm (tLinks aE.Tz)→UpL A→pairsOf vE.D A=(if E=e then P2 else P1):=by
  by_cases h:E=e
  ·have e1:aE=(clA a3 v3 m).1:=if_pos h
   have e2:vE=(clA a3 v3 m).2:=if_pos h
   rw[e1,e2,if_pos h]
   refine⟨hS4.inn.tb,fun l=>?_,fun p hp=>hS4.jb.now p hp.mem,hp4⟩
   rw[hS4.jn.tab l]
   constructor
   ·rintro⟨p,hp,rfl⟩;exact⟨p,(hlive p).2 (by rw[if_pos h];exact hp),rfl⟩
   ·rintro⟨p,hp,rfl⟩;have:=(hlive p).1 hp;rw[if_pos h] at this;exact⟨p,this,rfl⟩
  ·have e1:aE=a1:=if_neg h
   have e2:vE=v1:=if_neg h
   rw[e1,e2,if_neg h]
   refine⟨hS1.inn.tb,fun l=>?_,fun p hp=>?_,hp1⟩
   ·rw[hS1.jn.tab l]
    constructor
    ·rintro⟨p,hp,rfl⟩;exact⟨p,(hlive p).2 (by rw[if_neg h];exact hp),rfl⟩
    ·rintro⟨p,hp,rfl⟩;have:=(hlive p).1 hp;rw[if_neg h] at this;exact⟨p,this,rfl⟩
   ·have:=(hlive p).1 hp
    rw[if_neg h] at this
    exact hS1.jb.now p this.mem
 obtain⟨t1,t2,t3,t4⟩:=hT
 have hone:∀p q,LiveE (P++Q) E p→LiveE (P++Q) E q→p.2.key=q.2.key→p=q:=fun p q hp hq ek=>by
  have a1:=(tget_iff t1 (k:=(lkP p).key) (l:=lkP p)).2 ⟨(t2 _).2 ⟨p,hp,rfl⟩,rfl⟩
  have a2:=(tget_iff t1 (k:=(lkP p).key) (l:=lkP q)).2 ⟨(t2 _).2 ⟨q,hq,rfl⟩,ek.symm⟩
  rw[a1] at a2
  have e8:=congrArg Lk.ver (Option.some.inj a2)
  exact hS3.jn.inj hp.mem hq.mem e8
 obtain⟨r1,r2,r3,c,r4,r5,r6,r7⟩:=revive_ok (v:=(clA a3 v3 m).2.cut keep) (by rw[hlv];exact hn) ho hF (L0:=a3.L) (by rw[hlv];exact hsl) (by rw[hsl];omega) (fun p hp=>hS3.jb.tk p hp) (fun p hp=>by
  have h1:=(hS3.jn.ids p hp).2
  have h2:=hS3.jn.idn
  have h3:=(hS3.jn.lt hp).2
  omega) hone h6
 refine⟨E,hE,r1,r2,fun y hy=>?_⟩
 obtain⟨_,hend⟩:=end_same (v:=(clA a3 v3 m).2.cut keep) (cut_is _ _) (by rw[hlv];omega) r1
 have hlR:(runN ((clA a3 v3 m).2.cut keep) cor0 k).1.D.length=n:=(runN_inv (by rw[hlv];omega) k).1.len.trans hlv
 obtain⟨o1,o2,o3,o4,o5,o6,o7⟩:=ova_sh hy
 obtain⟨c2,hc2,Lz,rg,ro,hs,hLz,hst,hup,_⟩:=hy.get y.1 y.2 rfl
 rw[r3] at hc2
 rw[hlv] at r4
 rw[r4] at hc2
 injection hc2 with hc2
 subst hc2
 have hTz:y.2.Tz=c.Tz:=by rw[hs];rfl
 have hkn:(runN ((clA a3 v3 m).2.cut keep) cor0 k).2.kp.length≤256:=by
  have h8:=(runN_inv (v:=(clA a3 v3 m).2.cut keep) (by rw[hlv];omega) k).1.fl
  have h9:=(run_end (v:=(clA a3 v3 m).2.cut keep) (by rw[hlv];omega) h6).2 r1
  rw[h9.2.1]
  rw[h9.2.2] at h8
  exact Nat.le_trans (List.length_filter_le _ _) h8
 have hq0:rgQ y.2.rg=[]:=by
  have e8:y.2.rg=rg:=by rw[hs];rfl
  rw[e8]
  refine List.eq_nil_iff_forall_not_mem.2 fun l hl=>?_
  have:=sta_mem hst hl
  rw[r7] at this;cases this
 have hdec:∀p,LiveE (P++Q) E p→decF (linesL (runN ((clA a3 v3 m).2.cut keep) cor0 k).1.D p.1 (spanF p.2.cls))=some p.2:=fun p hp=>by
  have hk:fdP p∈(runN ((clA a3 v3 m).2.cut keep) cor0 k).2.kp:=by
   rw[r3]
   have e8:kpA ((clA a3 v3 m).2.cut keep).D=decK E (fdA ((clA a3 v3 m).2.cut keep).D):=by
    have h8:(openF ((clA a3 v3 m).2.cut keep).D).1=E:=by rw[show((clA a3 v3 m).2.cut keep).D=cutD (clA a3 v3 m).2.D keep from rfl,show(clA a3 v3 m).2=(clN m (kBegin a3.ck,v3)).2 from rfl,ho]
    unfold kpA;rw[h8]
   rw[e8]
   exact(kp_mem hF _).2 ⟨p,hp,rfl⟩
  exact(hend _ hk).2.1
 refine⟨by rw[hlR];exact o1,o2,by have:=o4;omega,by rw[hq0];exact Nat.zero_le _,⟨fun l hl=>?_,fun l hl=>by rw[hq0] at hl;cases hl⟩,fun B hB hU=>?_,by rw[hq0];rfl,?_,Nat.zero_le _⟩
 ·rw[hTz] at hl
  obtain⟨p,hp,rfl⟩:=(r6 l).1 hl
  have h8:=tk_rng (hS3.jb.tk p hp.mem)
  have e9:(lkP p).line=p.1:=rfl
  omega
 ·rw[hTz] at hB
  obtain⟨A,hA1,hA2⟩:∃A:List Lk,A.Perm (tLinks aE.Tz)∧UpL A:=by
   have nd:∀{T:Tbl},tInv T→(tLinks T).Nodup:=fun h=>by
    have:=h.nd
    rw[List.Nodup,List.pairwise_map] at this
    exact this.imp fun hab e=>hab (by rw[e])
   exact⟨B,hB.trans ((List.perm_ext_iff_of_nodup (nd r5) (nd t1)).2 fun l=>by rw[r6 l,t2 l]),hU⟩
  rw[← t4 A hA1 hA2]
  refine(pairs_same t1 r5 (fun l=>by rw[r6 l,t2 l]) (fun l hl=>?_) hA1 hA2 hB hU).symm
  obtain⟨p,hp,rfl⟩:=(t2 l).1 hl
  show decF (linesL vE.D p.1 (spanF p.2.cls))=decF (linesL _ p.1 (spanF p.2.cls))
  rw[t3 p hp,hdec p hp,dec_enc (hS3.jb.may p hp.mem).1]
 ·split<;>assumption
section
attribute [local irreducible] V.CW V.LW V.QW V.RW V.PQ V.Val V.Eff V.Qcall
open V (str byC ownV ownG ownS ownOk)
instance:Cal Tryz.prog 4:=⟨Tryz.call4⟩
instance:Cal Tryz.prog 5:=⟨Tryz.call5⟩
instance:Cal Tryz.prog 6:=⟨Tryz.call6⟩
instance:Cal Tryz.prog 9:=⟨Tryz.call9⟩
instance:Cal Tryz.prog 11:=⟨Tryz.call11⟩
instance:Cal Tryz.prog 12:=⟨Tryz.call12⟩
instance:Cal Tryz.prog 13:=⟨Tryz.call13⟩
instance:Cal Tryz.prog 14:=⟨Tryz.call14⟩
instance:Cal Tryz.prog 15:=⟨Tryz.call15⟩
instance:Cal Tryz.prog 16:=⟨Tryz.call16⟩
def ArS.ckU (s:ArS)(c:Ckk):ArS:={s with ck:=c}
theorem ArG.ckU {th n:Nat}{x:ArR}{s:ArS}{a:AS}(h:ArG th n x s a){c:Ck}(hc:c.Ok th):ArG th n x (s.ckU (ckk x.cb c)) {a with ck:=c}:=
 ⟨⟨h.ok.pl,h.ok.sl,h.ok.rd,hc,h.ok.bg,h.ok.tb,h.ok.od,h.ok.rg,h.ok.ef⟩,⟨h.is.L,h.is.rd,rfl,h.is.bg,h.is.Tz,h.is.D,h.is.q,h.is.id,h.is.ver,h.is.ef⟩,h.R⟩
structure Bt (n:Nat)(a:AS)(v:Dev)(P:Pub)(e:Int):Prop where
 st:ST n a v P
 bd:Bd v.D P e
 hd:Hd v.D e
 now:a.ck.now=e+1
 clo:a.ck.clo=0
 len:v.D.length=n
theorem Bt.first (n:Nat)(hn:10≤n∧n≤258):Bt n (as0 2 n) (fmtV (newV n)) [] 0:=⟨new_st n hn,(new_bd n hn).1,(new_bd n hn).2,rfl,rfl,(fmtV_len _).trans List.length_replicate⟩
theorem Bt.some {n:Nat}{a:AS}{v:Dev}{P:Pub}{e:Int}(h:Bt n a v P e){l:List (Kal×Value)}(hl:P.length+l.length≤700):∃Q,Q.length≤l.length∧(∀q∈Q,q.2.ep=e+1)∧Bt n (smZ a v l l.length).1 (smZ a v l l.length).2 (P++Q) e:=by
 obtain⟨Q,h1,h2⟩:=smZ_sj h.st hl l.length
 have hq:∀q∈Q,q.2.ep=e+1:=fun q hq=>(h2.ep q hq).trans h.now
 exact⟨Q,h1,hq,h2.st,h.bd.lv h.st.jb h2.st.jb h2.lv fun q hm=>by have:=hq q hm;omega,h.hd.lv h2.lv,h2.ck.now.trans h.now,h2.ck.clo.trans h.clo,h2.lv.len.trans h.len⟩
theorem Bt.close {n:Nat}{a:AS}{v:Dev}{P:Pub}{e:Int}(h:Bt n a v P e)(he:0≤e∧e≤40){m:Nat}(hm:8*a.L.length+4≤m):Bt n (clA a v m).1 (clA a v m).2 P (e+1):=by
 have e1:e+1-1=e:=by omega
 obtain⟨h1,_,h3,h4,_⟩:=cl_all h.st (by rw[e1];exact h.bd) h.now h.clo om_ m
 obtain⟨k1,k2,k3⟩:=cl_full h.st (by rw[e1];exact h.bd) (by rw[e1];exact h.hd) h.now h.clo om_ hm
 exact⟨h1,k1,k2,h3,k3,h4.trans h.len⟩
theorem Bt.part {n:Nat}{a:AS}{v:Dev}{P:Pub}{e:Int}(h:Bt n a v P e)(he:0≤e∧e≤40)(m:Nat):ST n (clA a v m).1 (clA a v m).2 P∧(clA a v m).2.D.length=n:=by
 have e1:e+1-1=e:=by omega
 obtain⟨h1,_,h3,h4,_⟩:=cl_all h.st (by rw[e1];exact h.bd) h.now h.clo om_ m
 exact⟨h1,h4.trans h.len⟩
theorem lo_any {w0:World}{F:List Nat}{sg ss r:V.Sg}{w:World}{b:Nat}(hw:Hp ⟨w0,F⟩ sg w)(hp:Pick ss sg r)(hF:b∉F)(hb:b<w0.heap.size):b∉V.ids ss:=fun hm=>by
 obtain⟨p,hp1,rfl⟩:=List.mem_map.1 hm
 rcases(hw.pick hp).lo p hp1 with h|h
 ·exact absurd hb (Nat.not_lt.2 h)
 ·exact hF h
def ckE (E:Int):Ck:=⟨E+1,E,0,List.replicate 2 0,List.replicate 258 false,List.replicate 258 false,0⟩
theorem synced_c (l1:List (Kal×Value))(p1:Option Addr)(c1:Nat)(l2:List (Kal×Value))(p2:Option Addr)(c2:Nat)(steps:Int)(ks:List Int)(pk:Option Addr)(ck:Nat)(w:World)(h1:V.slAt w p1 5 kvC l1)(h2:V.slAt w p2 5 kvC l2)(hks:V.slAt w pk 1 inI ks)(o1:∀z∈l1,z.2.oneCell'=true)(o2:∀z∈l2,z.2.oneCell'=true):Calls Tryz.prog 3 [.slice p1 l1.length c1,.slice p2 l2.length c2,.int .i64 steps,.slice pk ks.length ck].toArray w fun e w'=>e= .returned (.bool true)∧Below w.heap.size w w':=by
 refine Cb_ Tryz.func3 rfl Tryz.ntmps3<|pA_ 12 ?_
 refine LW.split (d:=22) rfl (fun h22=>?_) (fun h22=>?_)
 ·replace h22:=bT h22
  refine pA_ 14 ?_
  refine Le (Cz_ awake_g) fun _ _=>pA_ 6 ?_
  exact fb_
 ·replace h22:=bF h22
  refine pA_ 5 ?_
  refine LW.split (d:=27) rfl (fun h27=>?_) (fun h27=>?_)
  ·replace h27:=bT h27
   refine pA_ 9 ?_
   refine Le (Cz_ awake_g) fun _ _=>pA_ 6 ?_
   exact fb_
  ·replace h27:=bF h27
   refine pA_ 6 ?_
   refine Cd_ rfl (fun h31=>?_) fun h31=>?_
   ·refine Sq<|Rg<|Le (Cz_ awake_g) fun _ _=>pA_ 6 ?_
    exact fb_
   ·refine pA_ 4 ?_
    refine Le (Cn_ (anew_g 42 2 om_ om_ om_)) fun y hy=>pA_ 25 ?_
    refine Le (CM ((arS y.1 ({ar0 2 42 0 with dn:=1}) y.2.db++vS y.2 (fmtV (newV 42)))) fun w hw hs0=>fsome_g y.1 ({ar0 2 42 0 with dn:=1}) y.2 (fmtV (newV 42)) 42 (as0 2 42) [] l1 p1 c1 (arG0 2 42 om_ y.1 hy) (new_st 42 om_) (by simp;omega) o1 w (hw.slAt h1 (by simp[ids])) (fun h0 b o hb=>lo_any hw (show Pick (arS y.1 ({ar0 2 42 0 with dn:=1}) y.2.db++vS y.2 (fmtV (newV 42))) _ _ from pk_) (by simp[ids]) (sl_in h1 h0 hb)) hs0) fun s1 hs1=>?_
    obtain⟨Q1,hq1,hq2,hB1⟩:=(Bt.first 42 om_).some (l:=l1) (by simp;omega)
    rw[List.nil_append] at hB1
    generalize (smZ (as0 2 42) (fmtV (newV 42)) l1 l1.length)=z1 at hs1 hB1⊢
    have hck:=hs1.is.ck
    have hl1:=hB1.len
    refine pA_ 5 ?_
    refine Le (CV fun w hw=>aclock_g y.1 s1 w hw.at) fun _ _=>Le (Eff.callM ((ckS y.1.cb y.1.wb (ckk y.1.cb z1.1.ck))) (by first|(rw[← hck];repeat(first|exact .nil|apply Pick.cons|exact .here|apply Ext.there))|(repeat(first|exact .nil|apply Pick.cons|exact .here|apply Ext.there))) rfl Tryz.call8 (fun w hw hs0=>kbegin_g y.1.cb y.1.wb z1.1.ck 2 om_ hB1.st.inn.ck w hs0)) fun _ _=>pA_ 9 ?_
    refine loopA (γ:=Nat) (fun j=>[(1,.slice p2 l2.length c2),(2,.int .i64 steps),(3,.slice pk ks.length ck),(9,.pointer (some ⟨y.1.a,0,none⟩)),(11,.int .i64 (j:Nat))]) (fun j=>(arS y.1 (s1.ckU (ckk y.1.cb (clN j (kBegin z1.1.ck,z1.2)).1)) y.2.db++vS y.2 (clN j (kBegin z1.1.ck,z1.2)).2)) (fun j=>j≤60) (fun j=>60-j) (0) om_ fun j hj=>pA_ 7 ?_
    refine Cd_ rfl (fun h50=>?_) fun h50=>?_
    ·refine pA_ 6 ?_
     refine Le (CV fun w hw=>aclock_g y.1 (s1.ckU (ckk y.1.cb (clN j (kBegin z1.1.ck,z1.2)).1)) w hw.at) fun _ _=>Lv Mv<|Le (CV fun w hw=>adev_g y.1 (s1.ckU (ckk y.1.cb (clN j (kBegin z1.1.ck,z1.2)).1)) y.2.db w hw.at hw.at) fun _ _=>Le (Cm_ (kstep_g y.1.cb y.1.wb (clN j (kBegin z1.1.ck,z1.2)).1 2 (hB1.part om_ j).1.inn.ck (hB1.part om_ j).1.inn.ph y.2 (clN j (kBegin z1.1.ck,z1.2)).2 (by have:=(hB1.part om_ j).2;show(clA z1.1 z1.2 j).2.D.length≤1000;omega))) fun _ _=>pA_ 8 ?_
     exact roundA (j+1) om_ om_
    ·have e60:j=60:=by omega
     subst e60
     have hB2:=hB1.close om_ (m:=60) (by rw[hB1.st.inn.sl];decide)
     have hG2:ArG 2 42 y.1 (s1.ckU (ckk y.1.cb (clN 60 (kBegin z1.1.ck,z1.2)).1)) (clA z1.1 z1.2 60).1:=hs1.ckU (hB1.part om_ 60).1.inn.ck
     rw[show(clN 60 (kBegin z1.1.ck,z1.2)).2=(clA z1.1 z1.2 60).2 from rfl]
     generalize (s1.ckU (ckk y.1.cb (clN 60 (kBegin z1.1.ck,z1.2)).1))=s2 at hG2⊢
     generalize (clA z1.1 z1.2 60)=z2 at hB2 hG2⊢
     obtain⟨P1,hsh1,hp1⟩:=shP_st hB2.st hB2.len om_ hG2
     refine pA_ 8 ?_
     refine Le (CM ((arS y.1 s2 y.2.db++vS y.2 z2.2)) fun w hw hs0=>ashelf_e (y.1,s2) y.2 z2.2 P1 [] hsh1 w hs0) fun s1 hs1=>?_
     obtain⟨sp1,sq1⟩:=s1
     obtain⟨hsp1,hsq1⟩:=hs1
     simp only at hsp1 hsq1⊢
     obtain⟨pp1,cp1,hvp1,_,hsa1⟩:=own_slg (e:=112) prC_len P1 sp1 hsp1
     obtain⟨pq1,cq1,hvq1,_,hsb1⟩:=own_slg (e:=9) txC_len ([]:List (List UInt8)) sq1 hsq1
     refine LW.re 59 (.agg #[.slice pp1 P1.length cp1,.slice pq1 0 cq1]) rfl (by rw[hvp1,show ownV ([]:List (List UInt8)).length sq1=ownV 0 sq1 from rfl,show ownV 0 sq1= .slice pq1 0 cq1 from hvq1])<|Le AA fun b12 _=>LeN (StW (cs:=[.slice pp1 P1.length cp1,.slice pq1 0 cq1])) fun _ _=>pA_ 6 ?_
     refine Le (CM ((arS y.1 s2 y.2.db++vS y.2 z2.2)) fun w hw hs0=>fsome_g y.1 s2 y.2 z2.2 42 z2.1 Q1 l2 p2 c2 hG2 hB2.st om_ o2 w (hw.slAt h2 (by simp[ids])) (fun h0 b o hb=>lo_any hw (show Pick (arS y.1 s2 y.2.db++vS y.2 z2.2) _ _ from pk_) (by simp[ids]) (sl_in h2 h0 hb)) hs0) fun s3 hs3=>?_
     obtain⟨Q2,hr1,hr2,hB3⟩:=hB2.some (l:=l2) om_
     generalize (smZ z2.1 z2.2 l2 l2.length)=z3 at hs3 hB3⊢
     have hck:=hs3.is.ck
     have hl3:=hB3.len
     refine pA_ 5 ?_
     refine Le (CV fun w hw=>aclock_g y.1 s3 w hw.at) fun _ _=>Le (Eff.callM ((ckS y.1.cb y.1.wb (ckk y.1.cb z3.1.ck))) (by first|(rw[← hck];repeat(first|exact .nil|apply Pick.cons|exact .here|apply Ext.there))|(repeat(first|exact .nil|apply Pick.cons|exact .here|apply Ext.there))) rfl Tryz.call8 (fun w hw hs0=>kbegin_g y.1.cb y.1.wb z3.1.ck 2 om_ hB3.st.inn.ck w hs0)) fun _ _=>pA_ 9 ?_
     refine loopA (γ:=Nat) (fun j=>[(1,.slice p2 l2.length c2),(2,.int .i64 steps),(3,.slice pk ks.length ck),(9,.pointer (some ⟨y.1.a,0,none⟩)),(12,.pointer (some ⟨b12,0,none⟩)),(13,.int .i64 (j:Nat))]) (fun j=>[(b12,.cells [.slice pp1 P1.length cp1,.slice pq1 0 cq1].toArray 40 (0,0))]::ownG 112 (P1.flatMap prC) sp1::ownG 9 [] sq1::(arS y.1 (s3.ckU (ckk y.1.cb (clN j (kBegin z3.1.ck,z3.2)).1)) y.2.db++vS y.2 (clN j (kBegin z3.1.ck,z3.2)).2)) (fun j=>j≤lowF steps 60) (fun j=>lowF steps 60-j) (0) (Nat.zero_le _) fun j hj=>?_
     have hlo:=low_lt (a:=steps) (m:=60) om_
     refine pA_ 5 ?_
     refine Le (Cz_ (lowF_g steps 60 ⟨by omega,by omega⟩)) fun _ _=>pA_ 3 ?_
     refine Cd_ rfl (fun h69=>?_) fun h69=>?_
     ·refine pA_ 6 ?_
      refine Le (CV fun w hw=>aclock_g y.1 (s3.ckU (ckk y.1.cb (clN j (kBegin z3.1.ck,z3.2)).1)) w hw.at) fun _ _=>Lv Mv<|Le (CV fun w hw=>adev_g y.1 (s3.ckU (ckk y.1.cb (clN j (kBegin z3.1.ck,z3.2)).1)) y.2.db w hw.at hw.at) fun _ _=>Le (Cm_ (kstep_g y.1.cb y.1.wb (clN j (kBegin z3.1.ck,z3.2)).1 2 (hB3.part om_ j).1.inn.ck (hB3.part om_ j).1.inn.ph y.2 (clN j (kBegin z3.1.ck,z3.2)).2 (by have:=(hB3.part om_ j).2;show(clA z3.1 z3.2 j).2.D.length≤1000;omega))) fun _ _=>pA_ 8 ?_
      exact roundA (j+1) om_ om_
     ·have e60:j=lowF steps 60:=by omega
      subst e60
      generalize lowF steps 60=m2 at*
      obtain⟨hB4,hl4⟩:=hB3.part om_ m2
      have hG4:ArG 2 42 y.1 (s3.ckU (ckk y.1.cb (clN m2 (kBegin z3.1.ck,z3.2)).1)) (clA z3.1 z3.2 m2).1:=hs3.ckU hB4.inn.ck
      rw[show(clN m2 (kBegin z3.1.ck,z3.2)).2=(clA z3.1 z3.2 m2).2 from rfl]
      generalize (s3.ckU (ckk y.1.cb (clN m2 (kBegin z3.1.ck,z3.2)).1))=s4 at hG4⊢
      obtain⟨P2,hsh4,hp4⟩:=shP_st hB4 hl4 (by rw[List.length_append];omega) hG4
      have hsy:=fun k h6=>synced (n:=42) (e:=2) om_ hB2.st hB3.st hB2.len hB3.len hB3.bd hB3.hd hB3.now hB3.clo om_ (fun p hp=>by have:=hq2 p hp;omega) hr2 (by rw[List.length_append];omega) m2 ks (k:=k) h6 hsh1.pn hp1 hsh4.pn hp4
      generalize (clA z3.1 z3.2 m2)=z4 at hB4 hl4 hG4 hsh4 hsy⊢
      refine pA_ 8 ?_
      refine Le (CM ((arS y.1 s4 y.2.db++vS y.2 z4.2)) fun w hw hs0=>ashelf_e (y.1,s4) y.2 z4.2 P2 [] hsh4 w hs0) fun s2 hs2=>?_
      obtain⟨sp2,sq2⟩:=s2
      obtain⟨hsp2,hsq2⟩:=hs2
      simp only at hsp2 hsq2⊢
      obtain⟨pp2,cp2,hvp2,_,hsa2⟩:=own_slg (e:=112) prC_len P2 sp2 hsp2
      obtain⟨pq2,cq2,hvq2,_,hsb2⟩:=own_slg (e:=9) txC_len ([]:List (List UInt8)) sq2 hsq2
      refine LW.re 78 (.agg #[.slice pp2 P2.length cp2,.slice pq2 0 cq2]) rfl (by rw[hvp2,show ownV ([]:List (List UInt8)).length sq2=ownV 0 sq2 from rfl,show ownV 0 sq2= .slice pq2 0 cq2 from hvq2])<|Le AA fun b14 _=>LeN (StW (cs:=[.slice pp2 P2.length cp2,.slice pq2 0 cq2])) fun _ _=>pA_ 5 ?_
      refine Le (CV fun w hw=>adev_g y.1 s4 y.2.db w hw.at hw.at) fun _ _=>Lv Mv<|Le (CM (vS y.2 z4.2) fun w hw hs0=>cut_v y.2 z4.2 ks pk ck om_ om_ w hs0 (hw.slAt hks (by simp[ids])) (fun h0 b q hb=>lo_any hw (show Pick (vS y.2 z4.2) _ _ from pk_) (by simp[ids]) (sl_in hks h0 hb))) fun oL _=>pA_ 5 ?_
      refine Le (CV fun w hw=>adev_g y.1 s4 y.2.db w hw.at hw.at) fun _ _=>Le (Cm_ (to22_g y.2 (z4.2.cut ks) (by rw[Dev.cut_len];omega) (by rw[Dev.cut_len,hl4];decide))) fun z hz=>?_
      obtain⟨rb,k,r,ar⟩:=z
      obtain⟨h6p,hc,hX⟩:=hz
      simp only at h6p hc hX⊢
      obtain⟨E,hE,e6,eE,hEnd⟩:=hsy k (by rw[← hc];exact h6p)
      have h6:r.ph=6:=by rw[← hc] at e6;exact e6
      have hrE:r.e=E:=by rw[← hc] at eE;exact eE
      obtain⟨y1,rfl⟩:∃y1,ar=some y1:=by
       have h8:=hX.has
       rw[decide_eq_true h6] at h8
       exact Option.isSome_iff_exists.1 h8
      have hst1:=(hX.got y1 rfl).2
      have hov:=(hX.got y1 rfl).1
      rw[Dev.cut_len,hl4,hrE] at hov
      have hkp:(runN (z4.2.cut ks) cor0 k).2.kp=r.kp:=by rw[← hc];rfl
      rw[← hkp] at hov
      have hshb:=hEnd y1 hov
      have hck9:y1.2.ck=ckk y1.1.cb (ckE E):=by obtain⟨_,_,_,_,_,hs9,_⟩:=hov.get y1.1 y1.2 rfl;rw[hs9];rfl
      generalize (runN (z4.2.cut ks) cor0 k).1=vE at hshb⊢
      rw[if_pos h6,hst1]
      refine pA_ 4 ?_
      refine LW.re 89 (.bool true) rfl (by rw[decide_eq_true h6])<|pA_ 17 ?_
      refine Lv (Lw (l:=[.slice pp1 P1.length cp1,.slice pq1 0 cq1]))<|Le AA fun b18 _=>LeN (StW (cs:=[.slice pp1 P1.length cp1,.slice pq1 0 cq1])) fun _ _=>pA_ 6 ?_
      refine Le (CV fun w hw=>epoch_g rb y.2.db r w hw.at) fun _ _=>pA_ 3 ?_
      refine Cd_ rfl (fun h95=>?_) fun h95=>?_
      ·have h95:r.e=2:=h95
       have hE2:E=2:=by omega
       have hsc2:ShP vE.D y1 P2 []:=by rw[if_pos hE2] at hshb;exact hshb
       refine Rg<|Lv (Lw (l:=[.slice pp2 P2.length cp2,.slice pq2 0 cq2]))<|LeN (StW (cs:=[.slice pp2 P2.length cp2,.slice pq2 0 cq2])) fun _ _=>pA_ 3 ?_
       refine Dr ([[(b18,.cells [.slice pp2 P2.length cp2,.slice pq2 0 cq2].toArray 40 (0,0))],[rvO rb y.2.db r]])<|Rv 0 rfl Mv<|Re 1 rfl (CV fun w hw=>epoch_g rb y.2.db r w hw.at) fun _ _=>pR_ [2,3] ?_
       refine RW.split (d:=100) rfl (fun h100=>?_) (fun h100=>?_)
       ·exact absurd (bT h100) (by first|(simp;done)|omega)
       ·replace h100:=bF h100
        refine Rv 4 rfl Mv<|Re 5 rfl (CV fun w hw=>epoch_g rb y.2.db r w hw.at) fun _ _=>pR_ [6,7,8] ?_
        refine RW.split (d:=105) rfl (fun h105=>?_) (fun h105=>?_)
        ·replace h105:=bT h105
         refine Rv 9 rfl Mv<|RW.any [10,11] kr_ (by simp) fun i hi=>?_
         simp only[List.mem_cons,List.not_mem_nil,or_false] at hi
         rcases hi with rfl|rfl
         ·refine Ro rfl (CM ((arS y1.1 y1.2 y.2.db++vS y.2 vE)) fun w hw hs0=>ashelf_e y1 y.2 vE P2 [] hsc2 w hs0) fun s3 hs3=>?_
          obtain⟨sp3,sq3⟩:=s3
          obtain⟨hsp3,hsq3⟩:=hs3
          simp only at hsp3 hsq3⊢
          obtain⟨pp3,cp3,hvp3,_,hsa3⟩:=own_slg (e:=112) prC_len P2 sp3 hsp3
          obtain⟨pq3,cq3,hvq3,_,hsb3⟩:=own_slg (e:=9) txC_len ([]:List (List UInt8)) sq3 hsq3
          refine RW.re 107 (.agg #[.slice pp3 P2.length cp3,.slice pq3 0 cq3]) rfl (by rw[hvp3,show ownV ([]:List (List UInt8)).length sq3=ownV 0 sq3 from rfl,show ownV 0 sq3= .slice pq3 0 cq3 from hvq3])<|Re 11 rfl (Eff.ofVal (Lw (l:=[.slice pp2 P2.length cp2,.slice pq2 0 cq2]))) fun _ _=>Re 12 rfl (CV fun w hw=>sameShelf_c P2 [] (by have:=hsc2.pn;omega) (by simp) pp3 pq3 pp2 pq2 cp3 cq3 cp2 cq2 w (hsa3 hw pk_) (hsb3 hw pk_) (hsa2 hw pk_) (hsb2 hw pk_)) fun _ _=>pR_ [13,14,15,18] ?_
          refine Re 16 rfl (CV fun w hw=>aclock_g y1.1 y1.2 w hw.at) fun _ _=>Re 17 rfl (CV fun w hw=>know_g y1.1.cb y1.1.wb (ckE E) w (by have h8:=hw.sat.pick (ss:=ckS y1.1.cb y1.1.wb y1.2.ck) pk_;rw[hck9] at h8;exact h8)) fun _ _=>Re 19 rfl (CV fun w hw=>epoch_g rb y.2.db r w hw.at) fun _ _=>pR_ [20,21] ?_
          refine RW.re 118 (.bool true) rfl (by rw[hrE];simp[ckE])<|pR_ [22,23] ?_
          refine Re 24 rfl (Cz_ awake_g) fun _ _=>pR_ [25,26] ?_
          refine pA_ 4 ?_
          exact fb_
         ·refine Ro rfl (Eff.ofVal (Lw (l:=[.slice pp2 P2.length cp2,.slice pq2 0 cq2]))) fun _ _=>Re 10 rfl (CM ((arS y1.1 y1.2 y.2.db++vS y.2 vE)) fun w hw hs0=>ashelf_e y1 y.2 vE P2 [] hsc2 w hs0) fun s3 hs3=>?_
          obtain⟨sp3,sq3⟩:=s3
          obtain⟨hsp3,hsq3⟩:=hs3
          simp only at hsp3 hsq3⊢
          obtain⟨pp3,cp3,hvp3,_,hsa3⟩:=own_slg (e:=112) prC_len P2 sp3 hsp3
          obtain⟨pq3,cq3,hvq3,_,hsb3⟩:=own_slg (e:=9) txC_len ([]:List (List UInt8)) sq3 hsq3
          refine RW.re 107 (.agg #[.slice pp3 P2.length cp3,.slice pq3 0 cq3]) rfl (by rw[hvp3,show ownV ([]:List (List UInt8)).length sq3=ownV 0 sq3 from rfl,show ownV 0 sq3= .slice pq3 0 cq3 from hvq3])<|Re 12 rfl (CV fun w hw=>sameShelf_c P2 [] (by have:=hsc2.pn;omega) (by simp) pp3 pq3 pp2 pq2 cp3 cq3 cp2 cq2 w (hsa3 hw pk_) (hsb3 hw pk_) (hsa2 hw pk_) (hsb2 hw pk_)) fun _ _=>pR_ [13,14,15,18] ?_
          refine Re 16 rfl (CV fun w hw=>aclock_g y1.1 y1.2 w hw.at) fun _ _=>Re 17 rfl (CV fun w hw=>know_g y1.1.cb y1.1.wb (ckE E) w (by have h8:=hw.sat.pick (ss:=ckS y1.1.cb y1.1.wb y1.2.ck) pk_;rw[hck9] at h8;exact h8)) fun _ _=>Re 19 rfl (CV fun w hw=>epoch_g rb y.2.db r w hw.at) fun _ _=>pR_ [20,21] ?_
          refine RW.re 118 (.bool true) rfl (by rw[hrE];simp[ckE])<|pR_ [22,23] ?_
          refine Re 24 rfl (Cz_ awake_g) fun _ _=>pR_ [25,26] ?_
          refine pA_ 4 ?_
          exact fb_
        ·exact absurd (bF h105) (by first|(simp;done)|omega)
      ·have h95:¬r.e=2:=h95
       have hE1:E=1:=by omega
       have hsc1:ShP vE.D y1 P1 []:=by rw[if_neg om_] at hshb;exact hshb
       refine pA_ 3 ?_
       refine Dr ([[(b18,.cells [.slice pp1 P1.length cp1,.slice pq1 0 cq1].toArray 40 (0,0))],[rvO rb y.2.db r]])<|Rv 0 rfl Mv<|Re 1 rfl (CV fun w hw=>epoch_g rb y.2.db r w hw.at) fun _ _=>pR_ [2,3] ?_
       refine RW.split (d:=100) rfl (fun h100=>?_) (fun h100=>?_)
       ·replace h100:=bT h100
        refine pR_ [4,5,6,7,8,9] ?_
        refine RW.any [10,11] kr_ (by simp) fun i hi=>?_
        simp only[List.mem_cons,List.not_mem_nil,or_false] at hi
        rcases hi with rfl|rfl
        ·refine Ro rfl (CM ((arS y1.1 y1.2 y.2.db++vS y.2 vE)) fun w hw hs0=>ashelf_e y1 y.2 vE P1 [] hsc1 w hs0) fun s3 hs3=>?_
         obtain⟨sp3,sq3⟩:=s3
         obtain⟨hsp3,hsq3⟩:=hs3
         simp only at hsp3 hsq3⊢
         obtain⟨pp3,cp3,hvp3,_,hsa3⟩:=own_slg (e:=112) prC_len P1 sp3 hsp3
         obtain⟨pq3,cq3,hvq3,_,hsb3⟩:=own_slg (e:=9) txC_len ([]:List (List UInt8)) sq3 hsq3
         refine RW.re 107 (.agg #[.slice pp3 P1.length cp3,.slice pq3 0 cq3]) rfl (by rw[hvp3,show ownV ([]:List (List UInt8)).length sq3=ownV 0 sq3 from rfl,show ownV 0 sq3= .slice pq3 0 cq3 from hvq3])<|Re 11 rfl (Eff.ofVal (Lw (l:=[.slice pp1 P1.length cp1,.slice pq1 0 cq1]))) fun _ _=>Re 12 rfl (CV fun w hw=>sameShelf_c P1 [] (by have:=hsc1.pn;omega) (by simp) pp3 pq3 pp1 pq1 cp3 cq3 cp1 cq1 w (hsa3 hw pk_) (hsb3 hw pk_) (hsa1 hw pk_) (hsb1 hw pk_)) fun _ _=>pR_ [13,14,15,18] ?_
         refine Re 16 rfl (CV fun w hw=>aclock_g y1.1 y1.2 w hw.at) fun _ _=>Re 17 rfl (CV fun w hw=>know_g y1.1.cb y1.1.wb (ckE E) w (by have h8:=hw.sat.pick (ss:=ckS y1.1.cb y1.1.wb y1.2.ck) pk_;rw[hck9] at h8;exact h8)) fun _ _=>Re 19 rfl (CV fun w hw=>epoch_g rb y.2.db r w hw.at) fun _ _=>pR_ [20,21] ?_
         refine RW.re 118 (.bool true) rfl (by rw[hrE];simp[ckE])<|pR_ [22,23] ?_
         refine Re 24 rfl (Cz_ awake_g) fun _ _=>pR_ [25,26] ?_
         refine pA_ 4 ?_
         exact fb_
        ·refine Ro rfl (Eff.ofVal (Lw (l:=[.slice pp1 P1.length cp1,.slice pq1 0 cq1]))) fun _ _=>Re 10 rfl (CM ((arS y1.1 y1.2 y.2.db++vS y.2 vE)) fun w hw hs0=>ashelf_e y1 y.2 vE P1 [] hsc1 w hs0) fun s3 hs3=>?_
         obtain⟨sp3,sq3⟩:=s3
         obtain⟨hsp3,hsq3⟩:=hs3
         simp only at hsp3 hsq3⊢
         obtain⟨pp3,cp3,hvp3,_,hsa3⟩:=own_slg (e:=112) prC_len P1 sp3 hsp3
         obtain⟨pq3,cq3,hvq3,_,hsb3⟩:=own_slg (e:=9) txC_len ([]:List (List UInt8)) sq3 hsq3
         refine RW.re 107 (.agg #[.slice pp3 P1.length cp3,.slice pq3 0 cq3]) rfl (by rw[hvp3,show ownV ([]:List (List UInt8)).length sq3=ownV 0 sq3 from rfl,show ownV 0 sq3= .slice pq3 0 cq3 from hvq3])<|Re 12 rfl (CV fun w hw=>sameShelf_c P1 [] (by have:=hsc1.pn;omega) (by simp) pp3 pq3 pp1 pq1 cp3 cq3 cp1 cq1 w (hsa3 hw pk_) (hsb3 hw pk_) (hsa1 hw pk_) (hsb1 hw pk_)) fun _ _=>pR_ [13,14,15,18] ?_
         refine Re 16 rfl (CV fun w hw=>aclock_g y1.1 y1.2 w hw.at) fun _ _=>Re 17 rfl (CV fun w hw=>know_g y1.1.cb y1.1.wb (ckE E) w (by have h8:=hw.sat.pick (ss:=ckS y1.1.cb y1.1.wb y1.2.ck) pk_;rw[hck9] at h8;exact h8)) fun _ _=>Re 19 rfl (CV fun w hw=>epoch_g rb y.2.db r w hw.at) fun _ _=>pR_ [20,21] ?_
         refine RW.re 118 (.bool true) rfl (by rw[hrE];simp[ckE])<|pR_ [22,23] ?_
         refine Re 24 rfl (Cz_ awake_g) fun _ _=>pR_ [25,26] ?_
         refine pA_ 4 ?_
         exact fb_
       ·exact absurd (bF h100) (by first|(simp;done)|omega)
end
section
attribute [local irreducible] V.CW V.LW V.QW V.RW V.PQ V.Val V.Eff V.Qcall
open V (str byC ownV ownG ownS ownOk)
theorem cellsOf3:Tryz.prog.cellsOf 3=1:=by kernel_rfl
theorem cellsOf9:Tryz.prog.cellsOf 9=1:=by kernel_rfl
theorem cellsOf22:Tryz.prog.cellsOf 22=1:=by kernel_rfl
theorem cellsOf79:Tryz.prog.cellsOf 79=5:=by kernel_rfl
theorem open79 {H:Type}{enc:TypeId×Value→H}{w:World}{base:Nat}{spare:Nat→Bool}{held:Bool}{fuel:Nat}{cs:List Value}{x:DataW H×List MemPlace}(h:DataW.trod enc Tryz.prog w base spare held fuel 79 cs=some x):
 ∃(v0:Int) (v1:ByteArray) (v2:ByteArray) (v3:ByteArray) (p4:Option Addr) (n4:Nat) (q4:Nat) (l4:List (List Value)),cs=[.int .i64 v0,.string v1,.string v2,.string v3,.slice p4 n4 q4]∧(Lit.int .i64 v0).wf=true∧v1.size≤maxLen∧v2.size≤maxLen∧v3.size≤maxLen∧n4=l4.length∧n4≤maxLen∧V.slAt w p4 5 id l4∧(∀c∈l4,∃m y,DataW.trod enc Tryz.prog w base spare held m 79 c=some y):=by
 have hlen:=(V.trod_fields Tryz.underlying79 h).1
 rw[cellsOf79] at hlen
 match cs,hlen with
 |[c0,c1,c2,c3,c4],_=>
  obtain⟨_,m0,g0⟩:=V.trod_fields Tryz.underlying79 h
  obtain⟨y0_0,f0_0⟩:=g0 0 _ rfl 3 0 1 rfl rfl cellsOf3
  simp only[List.drop,List.take] at f0_0
  obtain⟨v0,e0,_,w0⟩:=DataW.trod_int Tryz.underlying3 f0_0
  simp only[List.cons.injEq,and_true] at e0;subst e0
  obtain⟨y0_1,f0_1⟩:=g0 1 _ rfl 9 1 1 rfl rfl cellsOf9
  simp only[List.drop,List.take] at f0_1
  obtain⟨v1,e1,_,w1⟩:=DataW.trod_string Tryz.underlying9 f0_1
  simp only[List.cons.injEq,and_true] at e1;subst e1
  obtain⟨y0_2,f0_2⟩:=g0 2 _ rfl 9 2 1 rfl rfl cellsOf9
  simp only[List.drop,List.take] at f0_2
  obtain⟨v2,e2,_,w2⟩:=DataW.trod_string Tryz.underlying9 f0_2
  simp only[List.cons.injEq,and_true] at e2;subst e2
  obtain⟨y0_3,f0_3⟩:=g0 3 _ rfl 9 3 1 rfl rfl cellsOf9
  simp only[List.drop,List.take] at f0_3
  obtain⟨v3,e3,_,w3⟩:=DataW.trod_string Tryz.underlying9 f0_3
  simp only[List.cons.injEq,and_true] at e3;subst e3
  obtain⟨y0_4,f0_4⟩:=g0 4 _ rfl 22 4 1 rfl rfl cellsOf22
  simp only[List.drop,List.take] at f0_4
  obtain⟨p4,n4,q4,l4,e4,z4,x4,s4,t4⟩:=V.open_sl (sz:=5) Tryz.underlying22 cellsOf79 (by decide) f0_4
  simp only[List.cons.injEq,and_true] at e4;subst e4
  exact⟨v0,v1,v2,v3,p4,n4,q4,l4,rfl,w0,w1,w2,w3,z4,x4,s4,t4⟩
section
variable {H:Type}{enc:TypeId×Value→H}{w:World}{base:Nat}{spare:Nat→Bool}{held:Bool}{fuel:Nat}{cs:List Value}{x:DataW H×List MemPlace}
theorem open_in (h:DataW.trod enc Tryz.prog w base spare held fuel 3 cs=some x):∃z:Int,cs=inI z∧True:=by
 obtain⟨v,e,_⟩:=DataW.trod_int Tryz.underlying3 h
 exact⟨v,e,trivial⟩
theorem open_kv (h:DataW.trod enc Tryz.prog w base spare held fuel 79 cs=some x):∃y:Kal×Value,cs=kvC y∧y.2.oneCell'=true:=by
 obtain⟨v0,v1,v2,v3,p4,n4,q4,l4,rfl,_⟩:=open79 h
 exact⟨(⟨v0,v1.data.toList,v2.data.toList,v3.data.toList⟩,.slice p4 n4 q4),rfl,rfl⟩
theorem open_kvs {p:Option Addr}{l:List (List Value)}(hs:V.slAt w p 5 id l)(ht:∀c∈l,∃m y,DataW.trod enc Tryz.prog w base spare held m 79 c=some y):∃m:List (Kal×Value),l.length=m.length∧V.slAt w p 5 kvC m∧∀z∈m,z.2.oneCell'=true:=by
 obtain⟨m,hm,ho⟩:=V.list_choice (enc':=kvC) (p:=fun y=>y.2.oneCell'=true) (l:=l) (fun c hc=>by
  obtain⟨k,y,hy⟩:=ht c hc
  exact open_kv hy)
 exact⟨m,by simp[hm],V.slAt_map hs hm,ho⟩
theorem open_ints {p:Option Addr}{l:List (List Value)}(hs:V.slAt w p 1 id l)(ht:∀c∈l,∃m y,DataW.trod enc Tryz.prog w base spare held m 3 c=some y):∃m:List Int,l.length=m.length∧V.slAt w p 1 inI m:=by
 obtain⟨m,hm,_⟩:=V.list_choice (enc':=inI) (p:=fun _=>True) (l:=l) (fun c hc=>by
  obtain⟨k,y,hy⟩:=ht c hc
  exact open_in hy)
 exact⟨m,by simp[hm],V.slAt_map hs hm⟩
end
end
end G
end Go.Proofs.YtjidffamcdcecaaGreat
