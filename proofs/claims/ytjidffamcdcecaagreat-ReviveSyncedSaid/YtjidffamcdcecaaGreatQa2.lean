import Derived.Test.YtjidffamcdcecaaGreatQa1
/- What the law leans on, part 2. -/
namespace Go.Proofs.YtjidffamcdcecaaGreat
open Go Go.RowKit V
set_option linter.unusedVariables false
set_option maxRecDepth 100000
set_option maxHeartbeats 1000000
section
instance:Cal Tryz.prog 75:=⟨Tryz.call75⟩
instance:Cal Tryz.prog 77:=⟨Tryz.call77⟩
instance:Cal Tryz.prog 100:=⟨Tryz.call100⟩
instance:Cal Tryz.prog 137:=⟨Tryz.call137⟩
instance:Cal Tryz.prog 185:=⟨Tryz.call185⟩
attribute [local irreducible] V.CW V.LW V.QW V.RW V.PQ V.Val V.Eff V.Qcall
open V (str byC ownV ownG ownS ownOk)
def supBase:List UInt8:=[4,70,85,83,69,0,0,0,0]
def clkBase:List UInt8:=[3,0,0,0,0,0,0,0,0]
def superL (x:Int):List UInt8:=sealL (putN supBase 5 (IntKind.u64.wrap x) 4)
def clockL (v:Int):List UInt8:=sealL (putN clkBase 1 v 8)
theorem superL_len (x:Int):(superL x).length=64:=sealL_len (by rw[putN_len];decide)
theorem clockL_len (x:Int):(clockL x).length=64:=sealL_len (by rw[putN_len];decide)
theorem fit8 (v:Int):fitB v 8=true:=by unfold fitB;simp
theorem fit_sm {x:Int}(h:0≤x∧x≤258):fitB (IntKind.u64.wrap x) 4=true:=by
 rw[IntWalk.u64_in _ om_]
 unfold fitB
 have e:(2:Int)^(min ((8:Int)*((4:Nat):Int)).toNat IntKind.u64.bits)=4294967296:=by decide
 have h2:x.fdiv 4294967296=0:=by rw[Int.fdiv_eq_ediv_of_nonneg _ om_];omega
 rw[e,h2]
 simp
theorem super_c (x:Int)(hx:0≤x∧x≤258):Rz Tryz.prog 75 [.int .i64 x] (.agg (byC (superL x)).toArray):=by
 intro w
 refine Cb_ Tryz.func75 rfl Tryz.ntmps75<|Sq<|Rg<|Le (AA (l:=byC z64.1) (hz:=by exact Tryz.zeroValue185)) fun b2 _=>Nl<|Ps<|Sq<|Rg<|Le (Eff.buildSlice rfl (byC supBase) Tryz.underlying133 Tryz.sizeOf5 (by exact Tryz.zeroValue5) rfl rfl rfl rfl (by rfl)) fun b6 _=>Lv Mv<|Lv Cv<|Le (CM [] fun w hw hs0=>put_c supBase _ 9 5 4 (IntKind.u64.wrap x) (by decide) (by decide) (by decide) w (V.slAt_flat (r:=[]) hw byE_len (by rfl) (show InS (b6,.cells (byC supBase).toArray 5 (0,0)) _ from in_))) fun o ho=>?_
 rw[putR_fit (fit_sm hx),fit_sm hx] at*
 obtain⟨gb,rest,cap,rfl⟩:=some_of ho (by rw[putN_len];decide)
 refine Lv Mv<|Lv Ex<|Lv Ex<|Lv Av<|LW.re 3 (.slice (some ⟨gb,0,none⟩) (putN supBase 5 (IntKind.u64.wrap x) 4).length cap) rfl (by rfl)<|Lv Av<|Nl<|Ps<|Sq<|Rg<|Lv Mv<|Le (CV fun w hw=>sealed_c (putN supBase 5 (IntKind.u64.wrap x) 4) _ cap (by rw[putN_len];decide) (by rw[putN_len];decide) w (V.slAt_flat hw byE_len rfl (show InS (gb,.cells ((putN supBase 5 (IntKind.u64.wrap x) 4).flatMap byE++rest).toArray 5 (0,0)) _ from in_))) fun _ _=>LeN (StW (cs:=byC (superL x)) (hlen:=by rw[V.byC_len (superL x),superL_len];exact byC64 z64) (hs:=by rw[V.byC_len,superL_len];exact Tryz.sizeOf185) (h1:=V.byC_one _)) fun _ _=>Nl<|Ps<|Rt<|V.PQ.retC (l:=byC (superL x)) rfl rfl in_ Tryz.isAgg185 (by rw[V.byC_len,superL_len];exact Tryz.sizeOf185) ?_
 exact fb_
theorem clock_c (x:Int):Rz Tryz.prog 77 [.int .u64 x] (.agg (byC (clockL x)).toArray):=by
 intro w
 refine Cb_ Tryz.func77 rfl Tryz.ntmps77<|Sq<|Rg<|Le (AA (l:=byC z64.1) (hz:=by exact Tryz.zeroValue185)) fun b2 _=>Nl<|Ps<|Sq<|Rg<|Le (Eff.buildSlice rfl (byC clkBase) Tryz.underlying133 Tryz.sizeOf5 (by exact Tryz.zeroValue5) rfl rfl rfl rfl (by rfl)) fun b6 _=>Lv Mv<|Le (CM [] fun w hw hs0=>put_c clkBase _ 9 1 8 x (by decide) (by decide) (by decide) w (V.slAt_flat (r:=[]) hw byE_len (by rfl) (show InS (b6,.cells (byC clkBase).toArray 5 (0,0)) _ from in_))) fun o ho=>?_
 rw[putR_fit (fit8 x),fit8 x] at*
 obtain⟨gb,rest,cap,rfl⟩:=some_of ho (by rw[putN_len];decide)
 refine Lv Mv<|Lv Ex<|Lv Ex<|Lv Av<|LW.re 3 (.slice (some ⟨gb,0,none⟩) (putN clkBase 1 x 8).length cap) rfl (by rfl)<|Lv Av<|Nl<|Ps<|Sq<|Rg<|Lv Mv<|Le (CV fun w hw=>sealed_c (putN clkBase 1 x 8) _ cap (by rw[putN_len];decide) (by rw[putN_len];decide) w (V.slAt_flat hw byE_len rfl (show InS (gb,.cells ((putN clkBase 1 x 8).flatMap byE++rest).toArray 5 (0,0)) _ from in_))) fun _ _=>LeN (StW (cs:=byC (clockL x)) (hlen:=by rw[V.byC_len (clockL x),clockL_len];exact byC64 z64) (hs:=by rw[V.byC_len,clockL_len];exact Tryz.sizeOf185) (h1:=V.byC_one _)) fun _ _=>Nl<|Ps<|Rt<|V.PQ.retC (l:=byC (clockL x)) rfl rfl in_ Tryz.isAgg185 (by rw[V.byC_len,clockL_len];exact Tryz.sizeOf185) ?_
 exact fb_
theorem Super_c (n:Nat)(h:10≤n∧n≤258):Mz Tryz.prog 43 [.int .i64 (n:Nat)] (fun b:Nat=>True) (fun b=> .tuple #[.slice (some ⟨b,0,none⟩) 64 64,.int .i64 0]) (fun b=>[[(b,.cells (byC (superL (n:Nat))).toArray 185 (0,0))]]):=by
 intro w
 refine Cb_ Tryz.func43 rfl Tryz.ntmps43<|pA_ 11 ?_
 refine LW.re 6 (.bool false) rfl (by simp<;>omega)<|pA_ 3 ?_
 refine LW.re 9 (.bool false) rfl (by simp<;>omega)<|pA_ 9 ?_
 refine Le (Cz_ (super_c (n:Nat) om_)) fun _ _=>Le (AA (l:=byC z64.1) (hz:=by exact Tryz.zeroValue185)) fun b4 _=>LeN (StW (cs:=byC (superL (n:Nat))) (hlen:=by rw[V.byC_len (superL (n:Nat)),superL_len];exact byC64 z64) (hs:=by rw[V.byC_len,superL_len];exact Tryz.sizeOf185) (h1:=V.byC_one _)) fun _ _=>pA_ 4 ?_
 refine Lv (Val.sliceArr 0 64 rfl Tryz.underlying185 Tryz.sizeOf5 rfl rfl om_ om_)<|LW.re 13 (.slice (some ⟨b4,0,none⟩) 64 64) rfl (by simp)<|pA_ 6 ?_
 exact fi_ b4 trivial
theorem Clock_c (v:Int):Mz Tryz.prog 46 [.int .u64 v] (fun b:Nat=>True) (fun b=> .slice (some ⟨b,0,none⟩) 64 64) (fun b=>[[(b,.cells (byC (clockL v)).toArray 185 (0,0))]]):=by
 intro w
 refine Cb_ Tryz.func46 rfl Tryz.ntmps46<|pA_ 8 ?_
 refine Le (Cz_ (clock_c v)) fun _ _=>Le (AA (l:=byC z64.1) (hz:=by exact Tryz.zeroValue185)) fun b3 _=>LeN (StW (cs:=byC (clockL v)) (hlen:=by rw[V.byC_len (clockL v),clockL_len];exact byC64 z64) (hs:=by rw[V.byC_len,clockL_len];exact Tryz.sizeOf185) (h1:=V.byC_one _)) fun _ _=>pA_ 4 ?_
 refine Lv (Val.sliceArr 0 64 rfl Tryz.underlying185 Tryz.sizeOf5 rfl rfl om_ om_)<|LW.re 6 (.slice (some ⟨b3,0,none⟩) 64 64) rfl (by simp)<|pA_ 5 ?_
 exact fi_ b3 trivial
theorem whole_c (b:B64)(p:Option Addr)(cp:Nat)(w:World)(hp:V.slAt w p 1 byE b.1):Calls Tryz.prog 185 [.slice p 64 cp].toArray w fun e w'=>e= .returned (.tuple #[.agg (byC b.1).toArray,.bool true])∧Below w.heap.size w w':=by
 obtain⟨pb,po,rfl,hpr⟩:=sl_range (F:=[]) byE_len hp (by rw[b.2];omega) (by simp)
 have hpb:pb<w.heap.size:=by
  rcases hp with h8|⟨b2,o2,h8,h9,_⟩
  ·have:=b.2;rw[h8] at this;simp at this
  ·simp only[Option.some.injEq,Addr.mk.injEq] at h8;obtain⟨rfl,_⟩:=h8;exact h9
 refine Cb_ Tryz.func185 rfl Tryz.ntmps185<|Sq<|Rg<|Le (AA (l:=byC z64.1) (hz:=by exact Tryz.zeroValue185)) fun b2 _=>Lv Av<|Nl<|Ps<|Sq<|Sq<|Rg<|Lv Mv<|Lv Ln<|Lv Cm<|LW.re 6 (.bool false) rfl (by rfl)<|Nl<|Ps<|Cf<|Sk<|Ps<|Sq<|Rg<|Lv Mv<|Lv (Val.arrPtr rfl Tryz.underlying185 (Nat.le_refl _))<|Lv (Val.loadOA (cs:=byC b.1) rfl Tryz.isAgg185 hpb (by simp[ids]) (by rw[byC_flat];exact hpr w (V.hp_none w)) (by rw[V.byC_len,b.2];exact Tryz.sizeOf185))<|LeN (StW (cs:=byC b.1) (hlen:=by rw[byC64,byC64]) (hs:=by rw[byC64];exact Tryz.sizeOf185) (h1:=V.byC_one _)) fun _ _=>Lv Av<|Nl<|Ps<|Rt<|V.PQ.retCT (l:=byC b.1) rfl rfl rfl in_ Tryz.isAgg185 (by rw[byC64];exact Tryz.sizeOf185) ?_
 exact fb_
def isSuperF (b:B64):Int×Bool:=if getN b.1 5 4<10∨258<getN b.1 5 4 then(0,false) else if b.1=superL (IntKind.i64.wrap (getN b.1 5 4)) then(IntKind.i64.wrap (getN b.1 5 4),true) else(0,false)
def isClockF (b:B64):Int×Bool:=if b.1=clockL (getN b.1 1 8) then(getN b.1 1 8,true) else(0,false)
theorem isSuper_c (b:B64)(p:Option Addr)(cp:Nat)(w:World)(hp:V.slAt w p 1 byE b.1):Calls Tryz.prog 143 [.slice p 64 cp].toArray w fun e w'=>e= .returned (.tuple #[.int .i64 (isSuperF b).1,.bool (isSuperF b).2])∧Below w.heap.size w w':=by
 refine Cb_ Tryz.func143 rfl Tryz.ntmps143<|pA_ 9 ?_
 refine Le (CV fun w hw=>whole_c b p cp w (hw.slAt hp (by simp[ids]))) fun _ _=>pA_ 3 ?_
 refine Le (AA (l:=byC z64.1) (hz:=by exact Tryz.zeroValue185)) fun b4 _=>LeN (StW (cs:=byC b.1) (hlen:=by rw[byC64,byC64]) (hs:=by rw[byC64];exact Tryz.sizeOf185) (h1:=V.byC_one _)) fun _ _=>pA_ 8 ?_
 refine LW.re 14 (.bool false) rfl (by rfl)<|pA_ 8 ?_
 refine Le (CV fun w hw=>(by have h8:=get_c b.1 p cp 5 4 om_ (by rw[b.2];omega) (by rw[b.2];omega) w (hw.slAt hp (by simp[ids]));rw[b.2] at h8;exact h8)) fun _ _=>pA_ 9 ?_
 refine Qt<|pA_ 3 ?_
 refine QW.split (d:=22) rfl (fun h22=>?_) (fun h22=>?_)
 ·replace h22:=bT h22
  have h22:getN b.1 5 4<10:=h22
  refine pA_ 22 ?_
  have e8:isSuperF b=(0,false):=by
   unfold isSuperF
   rw[if_pos om_]
  rw[e8]
  exact fb_
 ·replace h22:=bF h22
  have h22:10≤getN b.1 5 4:=h22
  refine pA_ 4 ?_
  refine QW.split (d:=26) rfl (fun h26=>?_) (fun h26=>?_)
  ·replace h26:=bT h26
   have h26:258<getN b.1 5 4:=h26
   refine pA_ 18 ?_
   have e8:isSuperF b=(0,false):=by
    unfold isSuperF
    rw[if_pos om_]
   rw[e8]
   exact fb_
  ·replace h26:=bF h26
   have h26:getN b.1 5 4≤258:=h26
   refine Qv (Lw (l:=byC b.1) (hs:=by rw[byC64];exact Tryz.sizeOf185))<|Qv Mv<|Qv Cv<|Qc (Qz_ (super_c (IntKind.i64.wrap (getN b.1 5 4)) (by rw[IntWalk.i64_in _ om_];omega)))<|Qv (Val.neBy (a:=b.1) (b:=superL (IntKind.i64.wrap (getN b.1 5 4))) rfl rfl kr_ Tryz.underlying185 Tryz.underlying5 Tryz.sizeOf5 b.2 (superL_len _))<|pA_ 3 ?_
   refine Cd_ rfl (fun h32=>?_) fun h32=>?_
   ·have h32:¬b.1=superL (IntKind.i64.wrap (getN b.1 5 4)):=by simpa using h32
    refine pA_ 9 ?_
    have e8:isSuperF b=(0,false):=by
     unfold isSuperF
     rw[if_neg om_,if_neg h32]
    rw[e8]
    exact fb_
   ·have h32:b.1=superL (IntKind.i64.wrap (getN b.1 5 4)):=by simpa using h32
    refine pA_ 12 ?_
    have e8:isSuperF b=(IntKind.i64.wrap (getN b.1 5 4),true):=by unfold isSuperF;rw[if_neg om_,if_pos h32]
    rw[e8]
    exact fb_
theorem isClock_c (b:B64)(p:Option Addr)(cp:Nat)(w:World)(hp:V.slAt w p 1 byE b.1):Calls Tryz.prog 144 [.slice p 64 cp].toArray w fun e w'=>e= .returned (.tuple #[.int .u64 (isClockF b).1,.bool (isClockF b).2])∧Below w.heap.size w w':=by
 refine Cb_ Tryz.func144 rfl Tryz.ntmps144<|pA_ 9 ?_
 refine Le (CV fun w hw=>whole_c b p cp w (hw.slAt hp (by simp[ids]))) fun _ _=>pA_ 3 ?_
 refine Le (AA (l:=byC z64.1) (hz:=by exact Tryz.zeroValue185)) fun b4 _=>LeN (StW (cs:=byC b.1) (hlen:=by rw[byC64,byC64]) (hs:=by rw[byC64];exact Tryz.sizeOf185) (h1:=V.byC_one _)) fun _ _=>pA_ 8 ?_
 refine LW.re 14 (.bool false) rfl (by rfl)<|pA_ 8 ?_
 refine Le (CV fun w hw=>(by have h8:=get_c b.1 p cp 1 8 om_ (by rw[b.2];omega) (by rw[b.2];omega) w (hw.slAt hp (by simp[ids]));rw[b.2] at h8;exact h8)) fun _ _=>pA_ 9 ?_
 refine Qt<|Qv (Lw (l:=byC b.1) (hs:=by rw[byC64];exact Tryz.sizeOf185))<|Qv Mv<|Qc (Qz_ (clock_c (getN b.1 1 8)))<|Qv (Val.neBy (a:=b.1) (b:=clockL (getN b.1 1 8)) rfl rfl kr_ Tryz.underlying185 Tryz.underlying5 Tryz.sizeOf5 b.2 (clockL_len _))<|Ql<|Ps ?_
 refine Cd_ rfl (fun h23=>?_) fun h23=>?_
 ·have h23:¬b.1=clockL (getN b.1 1 8):=by simpa using h23
  refine pA_ 9 ?_
  have e8:isClockF b=(0,false):=by unfold isClockF;rw[if_neg h23]
  rw[e8]
  exact fb_
 ·have h23:b.1=clockL (getN b.1 1 8):=by simpa using h23
  refine pA_ 11 ?_
  have e8:isClockF b=(getN b.1 1 8,true):=by unfold isClockF;rw[if_pos h23]
  rw[e8]
  exact fb_
end
section
instance:Cal Tryz.prog 43:=⟨Tryz.call43⟩
instance:Cal Tryz.prog 44:=⟨Tryz.call44⟩
instance:Cal Tryz.prog 45:=⟨Tryz.call45⟩
instance:Cal Tryz.prog 46:=⟨Tryz.call46⟩
instance:Cal Tryz.prog 47:=⟨Tryz.call47⟩
instance:Cal Tryz.prog 48:=⟨Tryz.call48⟩
instance:Cal Tryz.prog 94:=⟨Tryz.call94⟩
instance:Cal Tryz.prog 98:=⟨Tryz.call98⟩
instance:Cal Tryz.prog 143:=⟨Tryz.call143⟩
instance:Cal Tryz.prog 144:=⟨Tryz.call144⟩
attribute [local irreducible] V.CW V.LW V.QW V.RW V.PQ V.Val V.Eff V.Qcall
open V (str byC ownV ownG ownS ownOk)
end
end Go.Proofs.YtjidffamcdcecaaGreat
namespace Go.Proofs.YtjidffamcdcecaaGreat.V
open Go Go.RowKit
set_option linter.unusedVariables false
section
variable {P:Program}{n:Nat}{B:Base}{ks:Ks}{sg:Sg}{d:Option Tmp}{ty:TypeId}{pos:String}{aft:Array Edge}{g:Option (Nat×Bool)}
theorem Val.buildArr {t e:TypeId}{m sz:Nat}(cs:List Value){ps:List (Nat×Operand)}{vs:List (Nat×Value)}{zs:List Value}(hz:∀w,(zeroValue t).run P w= .ok (.agg zs.toArray) w)(hu:P.underlying t=some (.array m e))
 (hs:∀w,(sizeOf e).run P w= .ok sz w)(hv:evp ks ps=some vs)(hf:fillL (fun(i:Nat)=>some (i*sz,sz)) zs vs=some cs):
 Val P n B ⟨d,.build t ps.toArray,ty,pos,aft,g⟩ ks sg (.agg cs.toArray):=fun a w ha hw=>by
 show(do pure (Next.value (← Instr.build t (ps.toArray.map fun(i,x)=>(i,a.eval x)))):Sem Next).run P w=_
 refine run_value ?_
 have hm:=ha.evp hv
 have hfill:=fill_of_fillL _ _ _ _ hf
 simp only[Instr.build,Sem.run_bind,hz,Result.andThen_ok,run_underlying hu,hs,List.map_toArray,hm,Value.cells,hfill,Sem.run_pure]
variable {Q:Exit→Act→World→Prop}{c:Code}
theorem CW.loopU (m:Nat)(h:CW P n B (Exit.then (Code.rounds P c Q m) Q) c ks sg):CW P n B Q (.loop c) ks sg:=fun a w ha hw=>wp_loop_rounds (m+1) (h a w ha hw)
theorem PQ.next {m:Nat}(h:CW P n B (Exit.then (Code.rounds P c Q m) Q) c ks sg):PQ n B (Exit.then (Code.rounds P c Q (m+1)) Q) .normal ks sg:=fun a w ha hw=>h a w ha hw
end
end Go.Proofs.YtjidffamcdcecaaGreat.V
namespace Go.Proofs.YtjidffamcdcecaaGreat
open Go Go.RowKit V
set_option linter.unusedVariables false
set_option maxRecDepth 100000
set_option maxHeartbeats 1000000
section
theorem places89:∀w,((Array.mapM (fun(f:Field)=>do pure (f.offset,← sizeOf f.type)) (Tryz.prog.fieldsOf 89):Sem (Array (Nat×Nat)))).run Tryz.prog w= .ok [(0,1),(1,1),(2,1),(3,1),(4,258),(262,258),(520,1)].toArray w:=by
 intro w;kernel_rfl
theorem places170:∀w,((Array.mapM (fun(f:Field)=>do pure (f.offset,← sizeOf f.type)) (Tryz.prog.fieldsOf 170):Sem (Array (Nat×Nat)))).run Tryz.prog w= .ok [(0,8)].toArray w:=by
 intro w;kernel_rfl
theorem places180:∀w,((Array.mapM (fun(f:Field)=>do pure (f.offset,← sizeOf f.type)) (Tryz.prog.fieldsOf 180):Sem (Array (Nat×Nat)))).run Tryz.prog w= .ok [(0,3)].toArray w:=by
 intro w;kernel_rfl
theorem places191:∀w,((Array.mapM (fun(f:Field)=>do pure (f.offset,← sizeOf f.type)) (Tryz.prog.fieldsOf 191):Sem (Array (Nat×Nat)))).run Tryz.prog w= .ok [(0,1),(1,1)].toArray w:=by
 intro w;kernel_rfl
theorem places194:∀w,((Array.mapM (fun(f:Field)=>do pure (f.offset,← sizeOf f.type)) (Tryz.prog.fieldsOf 194):Sem (Array (Nat×Nat)))).run Tryz.prog w= .ok [(0,1)].toArray w:=by
 intro w;kernel_rfl
theorem places200:∀w,((Array.mapM (fun(f:Field)=>do pure (f.offset,← sizeOf f.type)) (Tryz.prog.fieldsOf 200):Sem (Array (Nat×Nat)))).run Tryz.prog w= .ok [(0,1)].toArray w:=by
 intro w;kernel_rfl
theorem places203:∀w,((Array.mapM (fun(f:Field)=>do pure (f.offset,← sizeOf f.type)) (Tryz.prog.fieldsOf 203):Sem (Array (Nat×Nat)))).run Tryz.prog w= .ok [(0,4)].toArray w:=by
 intro w;kernel_rfl
instance:Und Tryz.prog 23 (dOf Tryz.underlying23):=⟨Tryz.underlying23⟩
instance:Siz Tryz.prog 23 (kOf Tryz.sizeOf23):=⟨Tryz.sizeOf23⟩
instance:AgF Tryz.prog 23:=⟨Tryz.isAgg23⟩
instance:Und Tryz.prog 74 (dOf Tryz.underlying74):=⟨Tryz.underlying74⟩
instance:Siz Tryz.prog 74 (kOf Tryz.sizeOf74):=⟨Tryz.sizeOf74⟩
instance:Siz Tryz.prog 86 (kOf Tryz.sizeOf86):=⟨Tryz.sizeOf86⟩
instance:AgT Tryz.prog 86:=⟨Tryz.isAgg86⟩
instance:Siz Tryz.prog 87 (kOf Tryz.sizeOf87):=⟨Tryz.sizeOf87⟩
instance:AgF Tryz.prog 87:=⟨Tryz.isAgg87⟩
instance:Und Tryz.prog 89 (dOf Tryz.underlying89):=⟨Tryz.underlying89⟩
instance:Siz Tryz.prog 167 (kOf Tryz.sizeOf167):=⟨Tryz.sizeOf167⟩
instance:AgF Tryz.prog 167:=⟨Tryz.isAgg167⟩
instance:Siz Tryz.prog 168 (kOf Tryz.sizeOf168):=⟨Tryz.sizeOf168⟩
instance:AgT Tryz.prog 168:=⟨Tryz.isAgg168⟩
instance:Und Tryz.prog 170 (dOf Tryz.underlying170):=⟨Tryz.underlying170⟩
instance:Zer Tryz.prog 170 (zOf Tryz.zeroValue170):=⟨Tryz.zeroValue170⟩
instance:Und Tryz.prog 178 (dOf Tryz.underlying178):=⟨Tryz.underlying178⟩
instance:Siz Tryz.prog 178 (kOf Tryz.sizeOf178):=⟨Tryz.sizeOf178⟩
instance:Und Tryz.prog 180 (dOf Tryz.underlying180):=⟨Tryz.underlying180⟩
instance:Zer Tryz.prog 180 (zOf Tryz.zeroValue180):=⟨Tryz.zeroValue180⟩
instance:Und Tryz.prog 189 (dOf Tryz.underlying189):=⟨Tryz.underlying189⟩
instance:Siz Tryz.prog 189 (kOf Tryz.sizeOf189):=⟨Tryz.sizeOf189⟩
instance:AgF Tryz.prog 189:=⟨Tryz.isAgg189⟩
instance:Und Tryz.prog 191 (dOf Tryz.underlying191):=⟨Tryz.underlying191⟩
instance:Zer Tryz.prog 191 (zOf Tryz.zeroValue191):=⟨Tryz.zeroValue191⟩
instance:Und Tryz.prog 192 (dOf Tryz.underlying192):=⟨Tryz.underlying192⟩
instance:Siz Tryz.prog 192 (kOf Tryz.sizeOf192):=⟨Tryz.sizeOf192⟩
instance:AgF Tryz.prog 192:=⟨Tryz.isAgg192⟩
instance:Und Tryz.prog 194 (dOf Tryz.underlying194):=⟨Tryz.underlying194⟩
instance:Zer Tryz.prog 194 (zOf Tryz.zeroValue194):=⟨Tryz.zeroValue194⟩
instance:Siz Tryz.prog 195 (kOf Tryz.sizeOf195):=⟨Tryz.sizeOf195⟩
instance:Und Tryz.prog 197 (dOf Tryz.underlying197):=⟨Tryz.underlying197⟩
instance:Siz Tryz.prog 198 (kOf Tryz.sizeOf198):=⟨Tryz.sizeOf198⟩
instance:AgF Tryz.prog 198:=⟨Tryz.isAgg198⟩
instance:Und Tryz.prog 200 (dOf Tryz.underlying200):=⟨Tryz.underlying200⟩
instance:Zer Tryz.prog 200 (zOf Tryz.zeroValue200):=⟨Tryz.zeroValue200⟩
instance:Siz Tryz.prog 201 (kOf Tryz.sizeOf201):=⟨Tryz.sizeOf201⟩
instance:Und Tryz.prog 203 (dOf Tryz.underlying203):=⟨Tryz.underlying203⟩
instance:Zer Tryz.prog 203 (zOf Tryz.zeroValue203):=⟨Tryz.zeroValue203⟩
instance:Plc Tryz.prog 170 (fOf Tryz.underlying170) (lOf (P:=Tryz.prog) places170):=⟨places170,Tryz.underlying170⟩
instance:Plc Tryz.prog 180 (fOf Tryz.underlying180) (lOf (P:=Tryz.prog) places180):=⟨places180,Tryz.underlying180⟩
instance:Plc Tryz.prog 191 (fOf Tryz.underlying191) (lOf (P:=Tryz.prog) places191):=⟨places191,Tryz.underlying191⟩
instance:Plc Tryz.prog 194 (fOf Tryz.underlying194) (lOf (P:=Tryz.prog) places194):=⟨places194,Tryz.underlying194⟩
instance:Plc Tryz.prog 200 (fOf Tryz.underlying200) (lOf (P:=Tryz.prog) places200):=⟨places200,Tryz.underlying200⟩
instance:Plc Tryz.prog 203 (fOf Tryz.underlying203) (lOf (P:=Tryz.prog) places203):=⟨places203,Tryz.underlying203⟩
instance:Cal Tryz.prog 31:=⟨Tryz.call31⟩
instance:Cal Tryz.prog 54:=⟨Tryz.call54⟩
attribute [local irreducible] V.CW V.LW V.QW V.RW V.PQ V.Val V.Eff V.Qcall
open V (str byC ownV ownG ownS ownOk)
theorem x_store {a:Addr}{u:Value}{y:Int}{w:World}(hc:w.cell? a=some u)(hz:w.frozen? a=false):(callFunc 65 #[.pointer (some a),.int .u64 y]).run Tryz.prog w= .ok (.value (.tuple #[])) (w.setCell a (.int .u64 y)):=run_call_store Tryz.func65 kr_ kr_ kr_ kr_ hc hz
theorem aStore_c (b o:Nat)(l:List Value)(T:TypeId)(u:Value)(y:Int)(w:World)(hl:l[o]? =some u)(hs:Sat [[(b,.cells l.toArray T (0,0))]] w):Calls Tryz.prog 31 [.pointer (some ⟨b,o,none⟩),.int .u64 y].toArray w fun e w'=>∃_u:Unit,True∧e= .returned (.tuple #[])∧Hp ⟨w,V.ids [[(b,.cells l.toArray T (0,0))]]⟩ [[(b,.cells (l.set o (.int .u64 y)).toArray T (0,0))]] w':=by
 refine Cs_ [[(b,.cells l.toArray T (0,0))]] Tryz.func31 rfl Tryz.ntmps31 hs<|pA_ 5 ?_
 refine Le (Eff.ext (l':=l.set o (.int .u64 y)) rfl .here rfl (fun w hb=>x_store (V.cell_of_block hb (by exact hl)) (V.frozen_of hb))) fun _ _=>Nl<|PQ.end0 rfl ?_
 intro w' hw;exact⟨(),trivial,rfl,hw⟩
def clkL (p:Value):List Value:= .int .u64 0:: .int .u64 0:: .int .u64 0::p::(List.replicate 516 (.bool false)++[.nilFunc])
theorem zero_clk (w:World):(zeroValue 89).run Tryz.prog w= .ok (.agg (clkL (.slice none 0 0)).toArray) w:=(Tryz.zeroValue89 w).trans kr_
end
section
theorem places77:∀w,((Array.mapM (fun(f:Field)=>do pure (f.offset,← sizeOf f.type)) (Tryz.prog.fieldsOf 77):Sem (Array (Nat×Nat)))).run Tryz.prog w= .ok [(0,1),(1,1),(2,1),(3,1),(4,1),(5,1),(6,1),(7,1),(8,1),(9,1),(10,1)].toArray w:=by
 intro w;kernel_rfl
theorem places103:∀w,((Array.mapM (fun(f:Field)=>do pure (f.offset,← sizeOf f.type)) (Tryz.prog.fieldsOf 103):Sem (Array (Nat×Nat)))).run Tryz.prog w= .ok [(0,1),(1,3)].toArray w:=by
 intro w;kernel_rfl
theorem places108:∀w,((Array.mapM (fun(f:Field)=>do pure (f.offset,← sizeOf f.type)) (Tryz.prog.fieldsOf 108):Sem (Array (Nat×Nat)))).run Tryz.prog w= .ok [(0,1),(1,1),(2,1),(3,1),(4,1)].toArray w:=by
 intro w;kernel_rfl
instance:Und Tryz.prog 9 (dOf Tryz.underlying9):=⟨Tryz.underlying9⟩
instance:Siz Tryz.prog 9 (kOf Tryz.sizeOf9):=⟨Tryz.sizeOf9⟩
instance:AgF Tryz.prog 9:=⟨Tryz.isAgg9⟩
instance:Und Tryz.prog 30 (dOf Tryz.underlying30):=⟨Tryz.underlying30⟩
instance:Siz Tryz.prog 30 (kOf Tryz.sizeOf30):=⟨Tryz.sizeOf30⟩
instance:AgF Tryz.prog 30:=⟨Tryz.isAgg30⟩
instance:Und Tryz.prog 60 (dOf Tryz.underlying60):=⟨Tryz.underlying60⟩
instance:Siz Tryz.prog 60 (kOf Tryz.sizeOf60):=⟨Tryz.sizeOf60⟩
instance:AgF Tryz.prog 60:=⟨Tryz.isAgg60⟩
instance:Und Tryz.prog 63 (dOf Tryz.underlying63):=⟨Tryz.underlying63⟩
instance:Siz Tryz.prog 63 (kOf Tryz.sizeOf63):=⟨Tryz.sizeOf63⟩
instance:AgF Tryz.prog 63:=⟨Tryz.isAgg63⟩
instance:Und Tryz.prog 64 (dOf Tryz.underlying64):=⟨Tryz.underlying64⟩
instance:Siz Tryz.prog 64 (kOf Tryz.sizeOf64):=⟨Tryz.sizeOf64⟩
instance:AgF Tryz.prog 64:=⟨Tryz.isAgg64⟩
instance:Und Tryz.prog 65 (dOf Tryz.underlying65):=⟨Tryz.underlying65⟩
instance:Siz Tryz.prog 65 (kOf Tryz.sizeOf65):=⟨Tryz.sizeOf65⟩
instance:AgF Tryz.prog 65:=⟨Tryz.isAgg65⟩
instance:Und Tryz.prog 66 (dOf Tryz.underlying66):=⟨Tryz.underlying66⟩
instance:Siz Tryz.prog 66 (kOf Tryz.sizeOf66):=⟨Tryz.sizeOf66⟩
instance:AgF Tryz.prog 66:=⟨Tryz.isAgg66⟩
instance:Und Tryz.prog 67 (dOf Tryz.underlying67):=⟨Tryz.underlying67⟩
instance:Siz Tryz.prog 67 (kOf Tryz.sizeOf67):=⟨Tryz.sizeOf67⟩
instance:AgF Tryz.prog 67:=⟨Tryz.isAgg67⟩
instance:Und Tryz.prog 68 (dOf Tryz.underlying68):=⟨Tryz.underlying68⟩
instance:Siz Tryz.prog 68 (kOf Tryz.sizeOf68):=⟨Tryz.sizeOf68⟩
instance:AgF Tryz.prog 68:=⟨Tryz.isAgg68⟩
instance:Und Tryz.prog 69 (dOf Tryz.underlying69):=⟨Tryz.underlying69⟩
instance:Siz Tryz.prog 69 (kOf Tryz.sizeOf69):=⟨Tryz.sizeOf69⟩
instance:AgF Tryz.prog 69:=⟨Tryz.isAgg69⟩
instance:Siz Tryz.prog 75 (kOf Tryz.sizeOf75):=⟨Tryz.sizeOf75⟩
instance:AgF Tryz.prog 75:=⟨Tryz.isAgg75⟩
instance:Und Tryz.prog 77 (dOf Tryz.underlying77):=⟨Tryz.underlying77⟩
instance:Zer Tryz.prog 77 (zOf Tryz.zeroValue77):=⟨Tryz.zeroValue77⟩
instance:Und Tryz.prog 101 (dOf Tryz.underlying101):=⟨Tryz.underlying101⟩
instance:Siz Tryz.prog 101 (kOf Tryz.sizeOf101):=⟨Tryz.sizeOf101⟩
instance:Und Tryz.prog 103 (dOf Tryz.underlying103):=⟨Tryz.underlying103⟩
instance:Zer Tryz.prog 103 (zOf Tryz.zeroValue103):=⟨Tryz.zeroValue103⟩
instance:Und Tryz.prog 104 (dOf Tryz.underlying104):=⟨Tryz.underlying104⟩
instance:Siz Tryz.prog 104 (kOf Tryz.sizeOf104):=⟨Tryz.sizeOf104⟩
instance:AgF Tryz.prog 104:=⟨Tryz.isAgg104⟩
instance:Und Tryz.prog 108 (dOf Tryz.underlying108):=⟨Tryz.underlying108⟩
instance:Siz Tryz.prog 108 (kOf Tryz.sizeOf108):=⟨Tryz.sizeOf108⟩
instance:AgT Tryz.prog 108:=⟨Tryz.isAgg108⟩
instance:Zer Tryz.prog 108 (zOf Tryz.zeroValue108):=⟨Tryz.zeroValue108⟩
instance:Und Tryz.prog 144 (dOf Tryz.underlying144):=⟨Tryz.underlying144⟩
instance:Siz Tryz.prog 144 (kOf Tryz.sizeOf144):=⟨Tryz.sizeOf144⟩
instance:AgT Tryz.prog 144:=⟨Tryz.isAgg144⟩
instance:Zer Tryz.prog 144 (zOf Tryz.zeroValue144):=⟨Tryz.zeroValue144⟩
instance:Und Tryz.prog 146 (dOf Tryz.underlying146):=⟨Tryz.underlying146⟩
instance:Siz Tryz.prog 146 (kOf Tryz.sizeOf146):=⟨Tryz.sizeOf146⟩
instance:AgT Tryz.prog 146:=⟨Tryz.isAgg146⟩
instance:Zer Tryz.prog 146 (zOf Tryz.zeroValue146):=⟨Tryz.zeroValue146⟩
instance:Plc Tryz.prog 77 (fOf Tryz.underlying77) (lOf (P:=Tryz.prog) places77):=⟨places77,Tryz.underlying77⟩
instance:Plc Tryz.prog 103 (fOf Tryz.underlying103) (lOf (P:=Tryz.prog) places103):=⟨places103,Tryz.underlying103⟩
instance:Plc Tryz.prog 108 (fOf Tryz.underlying108) (lOf (P:=Tryz.prog) places108):=⟨places108,Tryz.underlying108⟩
instance:Cal Tryz.prog 25:=⟨Tryz.call25⟩
instance:Cal Tryz.prog 29:=⟨Tryz.call29⟩
instance:Cal Tryz.prog 51:=⟨Tryz.call51⟩
instance:Cal Tryz.prog 52:=⟨Tryz.call52⟩
instance:Cal Tryz.prog 53:=⟨Tryz.call53⟩
instance:Cal Tryz.prog 55:=⟨Tryz.call55⟩
instance:Cal Tryz.prog 56:=⟨Tryz.call56⟩
instance:Cal Tryz.prog 57:=⟨Tryz.call57⟩
instance:Cal Tryz.prog 58:=⟨Tryz.call58⟩
instance:Cal Tryz.prog 126:=⟨Tryz.call126⟩
instance:Cal Tryz.prog 138:=⟨Tryz.call138⟩
instance:Cal Tryz.prog 150:=⟨Tryz.call150⟩
instance:Cal Tryz.prog 151:=⟨Tryz.call151⟩
instance:Cal Tryz.prog 152:=⟨Tryz.call152⟩
instance:Cal Tryz.prog 153:=⟨Tryz.call153⟩
instance:Cal Tryz.prog 155:=⟨Tryz.call155⟩
instance:Cal Tryz.prog 195:=⟨Tryz.call195⟩
instance:Cal Tryz.prog 230:=⟨Tryz.call230⟩
attribute [local irreducible] V.CW V.LW V.QW V.RW V.PQ V.Val V.Eff V.Qcall
open V (str byC ownV ownG ownS ownOk)
end
end Go.Proofs.YtjidffamcdcecaaGreat
namespace Go.Proofs.YtjidffamcdcecaaGreat.V
open Go Go.RowKit
set_option linter.unusedVariables false
def sh (ds:List Deferred)(a:Act):Act:={a with defers:=a.defers++ds}
def SQ (ds:List Deferred)(Q:Exit→Act→World→Prop):Exit→Act→World→Prop:=fun e a w=>Q e (sh ds a) w
section
variable {P:Program}{n:Nat}{B:Base}{Q:Exit→Act→World→Prop}{ks:Ks}{sg:Sg}{ops:Array Oper}{ds:List Deferred}
theorem sh_put (a:Act)(d:Option Tmp)(v:Value):sh ds (a.put d v)=(sh ds a).put d v:=by cases d<;>rfl
theorem wp_sh {o:Oper}{a:Act}{w:World}{next next':Act→World→Prop}(hn:∀a w,next' a w→next (sh ds a) w)(h:o.wp P a w next' (SQ ds Q)):o.wp P (sh ds a) w next Q:=by
 unfold Oper.wp at h⊢
 have e1:(sh ds a).eval=a.eval:=rfl
 rw[e1]
 cases hr:(execOp a.eval o).run P w with
 |ok x w'=>
  rw[hr] at h
  cases x with
  |value v=>rw[Oper.upon_value] at h⊢;rw[← sh_put];exact hn _ _ h
  |skip=>rw[Oper.upon_skip] at h⊢;rw[← sh_put];exact hn _ _ h
  |defer d=>rw[Oper.upon_defer] at h⊢;have:=hn _ _ h;rw[sh_put] at this;exact this
  |enter f args=>
   rw[Oper.upon_enter] at h⊢
   refine Calls.mono h fun e w'' hq=>?_
   cases e with
   |returned v=>have:=hn _ _ hq;rw[sh_put] at this;exact this
   |panicked chain=>exact hq
   |outgrown=>obtain⟨a2,w2,h2⟩:=hq;exact⟨sh ds a2,w2,h2⟩
  |row r args=>
   rw[Oper.upon_row] at h⊢
   refine Rows.mono h fun v w'' hq=>?_
   have:=hn _ _ hq
   rw[sh_put] at this
   exact this
  |_=>exact h.elim
 |halt x w'=>
  rw[hr] at h
  cases x<;>first|exact h.elim|exact h
theorem wpList_sh:∀{l:List Oper} {a:Act} {w:World},wpList P ops (SQ ds Q) l a w→wpList P ops Q l (sh ds a) w
 |[],a,w,h=>h
 |o::rest,a,w,h=>by
  unfold wpList at h⊢
  have e1:yielded ops (sh ds a).tmps=yielded ops a.tmps:=rfl
  rw[e1]
  split
  ·rename_i hg
   rw[if_pos hg] at h
   rcases h with h|⟨h1,a2,w2,h2⟩
   ·exact .inl (wp_sh (fun a w h=>wpList_sh h) h)
   ·exact .inr ⟨h1,sh ds a2,w2,h2⟩
  ·rename_i hg
   rw[if_neg hg] at h
   rw[← sh_put]
   exact wpList_sh h
def CD (P:Program)(n:Nat)(B:Base)(ds:List Deferred)(Q:Exit→Act→World→Prop)(c:Code)(ks:Ks)(sg:Sg):Prop:=∀a w,Fr n ks a→Hp B sg w→c.wp P Q (sh ds a) w
theorem CD.region {id:Nat}{l:List Oper}(h:LW P n B l.toArray (SQ ds Q) l ks sg):CD P n B ds Q (.region id l.toArray false) ks sg:=fun a w ha hw=>wp_region_lit (wpList_sh (h a w ha hw))
theorem CD.seq {x y:Code}(h:CD P n B ds (Exit.then (y.wp P Q) Q) x ks sg):CD P n B ds Q (.seq x y) ks sg:=fun a w ha hw=>wp_seq (h a w ha hw)
theorem CD.cond_t {c:Operand}{x y:Code}(hc:ev ks c=some (.bool true))(h:CD P n B ds Q x ks sg):CD P n B ds Q (.cond c x y) ks sg:=
 fun a w ha hw=>wp_cond_split (t:=true) (ha.ev hc) (fun _=>h a w ha hw) (fun e=>by cases e)
theorem PQ.seqD {y:Code}(h:CD P n B ds Q y ks sg):PQ n B (SQ ds (Exit.then (y.wp P Q) Q)) .normal ks sg:=fun a w ha hw=>h a w ha hw
theorem LW.dfr {f:FuncId}{xs:List Operand}{vs:List Value}{ats:Array TypeId}{ty:TypeId}{pos:String}{aft:Array Edge}{g:Option (Nat×Bool)}{y:Code}(hg:gd ops ks g=some true)(hxs:evs ks xs=some vs)
 (h:CD P n B [⟨.fn (.func f) #[],vs.toArray⟩] Q y ks sg):LW P n B ops (Exit.then (y.wp P Q) Q) [⟨none,.defer {callee:= .value (.func f),args:=xs.toArray,argTypes:=ats},ty,pos,aft,g⟩] ks sg:=fun a w ha hw=>
 wpList_step fun K hK=>by
  rw[if_pos (wanted_gd (o:=⟨none,.defer {callee:= .value (.func f),args:=xs.toArray,argTypes:=ats},ty,pos,aft,g⟩) ha hg)]
  unfold Oper.wp
  have hm:=ha.evs hxs
  have hr:(execOp a.eval ⟨none,.defer {callee:= .value (.func f),args:=xs.toArray,argTypes:=ats},ty,pos,aft,g⟩).run P w= .ok (.defer ⟨.fn (.func f) #[],vs.toArray⟩) w:=by
   simp only[execOp,resolve,Act.eval,Deferred.ofValue,Sem.run_bind,Sem.run_pure,Result.andThen_ok,List.map_toArray,hm,Array.empty_append]
  rw[hr,Oper.upon_defer]
  refine hK _ _ ?_
  have h2:=h a w ha hw
  rw[ha.defers]
  unfold sh at h2
  rw[ha.defers] at h2
  exact h2
theorem LW.dfr2 {f:FuncId}{xs:List Operand}{vs:List Value}{ats:Array TypeId}{ty:TypeId}{pos:String}{aft:Array Edge}{g:Option (Nat×Bool)}{y:Code}(hg:gd ops ks g=some true)(hxs:evs ks xs=some vs)
 (h:CD P n B (⟨.fn (.func f) #[],vs.toArray⟩::ds) Q y ks sg):LW P n B ops (SQ ds (Exit.then (y.wp P Q) Q)) [⟨none,.defer {callee:= .value (.func f),args:=xs.toArray,argTypes:=ats},ty,pos,aft,g⟩] ks sg:=fun a w ha hw=>
 wpList_step fun K hK=>by
  rw[if_pos (wanted_gd (o:=⟨none,.defer {callee:= .value (.func f),args:=xs.toArray,argTypes:=ats},ty,pos,aft,g⟩) ha hg)]
  unfold Oper.wp
  have hm:=ha.evs hxs
  have hr:(execOp a.eval ⟨none,.defer {callee:= .value (.func f),args:=xs.toArray,argTypes:=ats},ty,pos,aft,g⟩).run P w= .ok (.defer ⟨.fn (.func f) #[],vs.toArray⟩) w:=by
   simp only[execOp,resolve,Act.eval,Deferred.ofValue,Sem.run_bind,Sem.run_pure,Result.andThen_ok,List.map_toArray,hm,Array.empty_append]
  rw[hr,Oper.upon_defer]
  refine hK _ _ ?_
  have h2:=h a w ha hw
  rw[ha.defers]
  unfold sh at h2
  rw[ha.defers] at h2
  exact h2
theorem PQ.endD {fn:Func}{R:Ending→World→Prop}(h:∀a w,Fr n ks a→Hp B sg w→Leaves P fn a.tmps R ds .returning w):PQ n B (SQ ds (bodyPostD P fn R)) .normal ks sg:=fun a w ha hw=>by
 show Leaves P fn a.tmps R (a.defers++ds) .returning w
 rw[ha.defers]
 exact h a w ha hw
theorem Leaves.call {fn:Func}{tmps:Array Value}{R:Ending→World→Prop}{f:FuncId}{vs:List Value}{w:World}{α:Type}{φ:α→Prop}{v:α→Value}{ss r:Sg}{so:α→Sg}(hw:Hp B sg w)(hp:Pick ss sg r)
 (hc:∀(args:Array Value) (w:World),(callFunc f args).run P w= .ok (.enter f args) w)
 (h:Sat ss w→CallsD P f vs.toArray .returning w fun e u w'=>u= .returning∧∃x,φ x∧e= .returned (v x)∧Hp ⟨w,ids ss⟩ (so x) w')
 (k:∀x w',φ x→Hp B (so x++r) w'→Leaves P fn tmps R ds .returning w'):Leaves P fn tmps R (⟨.fn (.func f) #[],vs.toArray⟩::ds) .returning w:=by
 refine leaves_cons (f:=f) (args:=vs.toArray) (by simp) (by simp[invoke,hc]) ?_
 refine CallsD.mono (h (hw.sat.pick hp)) ?_
 rintro e u w' ⟨rfl,x,hx,rfl,hw'⟩
 exact k x w' hx (hw.call hp hw')
theorem Leaves.nil0 {fn:Func}{tmps:Array Value}{R:Ending→World→Prop}{w:World}(hr:fn.results=#[])(h:R (.returned (.tuple #[])) w):Leaves P fn tmps R [] .returning w:=⟨.tuple #[],results_none hr _ _ _,h⟩
theorem callsD {f:FuncId}{fn:Func}{c:Code}{l:List Value}{u:FrameMode}{w:World}{R:Ending→World→Prop}{m:Nat}(sg0:Sg)
 (hf:P.funcs[f]? =some fn)(hb:fn.body=some c)(hn:fn.ntmps=m)(hl:l.length≤m)(hs:Sat sg0 w)
 (h:CW P m ⟨w,ids sg0⟩ (bodyPost P fn R) c (initK 0 l) sg0):CallsD P f l.toArray u w fun e u' w'=>u'=u∧R e w':=by
 refine callsD_of_wp hf hb (h _ w ⟨rfl,?_,fun i v hi=>?_⟩ (Hp.start hs))
 ·simp[hn];omega
 ·obtain⟨k,rfl,hv⟩:=look_initK l 0 i v hi
  have hk:k<l.length:=(List.getElem?_eq_some_iff.1 hv).1
  simp only[Nat.zero_add]
  rw[Array.getElem?_append_left (by simpa using hk)]
  simpa using hv
theorem callsDf {f:FuncId}{fn:Func}{c:Code}{l:List Value}{w:World}{R:Ending→World→Prop}{m:Nat}(sg0:Sg)
 (hf:P.funcs[f]? =some fn)(hb:fn.body=some c)(hn:fn.ntmps=m)(hl:l.length≤m)(hs:Sat sg0 w)
 (h:CW P m ⟨w,ids sg0⟩ (bodyPostD P fn R) c (initK 0 l) sg0):Calls P f l.toArray w R:=by
 refine calls_of_wp_defers hf hb (h _ w ⟨rfl,?_,fun i v hi=>?_⟩ (Hp.start hs))
 ·simp[hn];omega
 ·obtain⟨k,rfl,hv⟩:=look_initK l 0 i v hi
  have hk:k<l.length:=(List.getElem?_eq_some_iff.1 hv).1
  simp only[Nat.zero_add]
  rw[Array.getElem?_append_left (by simpa using hk)]
  simpa using hv
variable {d:Option Tmp}{ty:TypeId}{pos:String}{aft:Array Edge}{g:Option (Nat×Bool)}
theorem Val.toUns {src dst t:TypeId}{x:Operand}{b o:Nat}{v:Value}(hx:ev ks x=some (.pointer (some ⟨b,o,none⟩)))(hs:P.underlying src=some (.pointer t))(hd:P.underlying dst=some .unsafePointer)(hsz:(P.info? t).map (fun i=>decide (i.size=0))=some false)
 (hc:∀w,Hp B sg w→w.cell? ⟨b,o,none⟩=some v):Val P n B ⟨d,.convert src dst x,ty,pos,aft,g⟩ ks sg (.pointer (some ⟨b,o,none⟩)):=fun a w ha hw=>by
 show(do pure (Next.value (← convert src dst (a.eval x))):Sem Next).run P w=_
 rw[ha.ev hx]
 exact run_value (run_convert_to_unsafe hs hd hsz (hc w hw))
end
end Go.Proofs.YtjidffamcdcecaaGreat.V
namespace Go.Proofs.YtjidffamcdcecaaGreat
open Go Go.RowKit V
set_option linter.unusedVariables false
set_option maxRecDepth 100000
set_option maxHeartbeats 2000000
section
instance:Siz Tryz.prog 21 (kOf Tryz.sizeOf21):=⟨Tryz.sizeOf21⟩
instance:Und Tryz.prog 95 (dOf Tryz.underlying95):=⟨Tryz.underlying95⟩
instance:Siz Tryz.prog 95 (kOf Tryz.sizeOf95):=⟨Tryz.sizeOf95⟩
instance:Und Tryz.prog 97 (dOf Tryz.underlying97):=⟨Tryz.underlying97⟩
instance:Siz Tryz.prog 97 (kOf Tryz.sizeOf97):=⟨Tryz.sizeOf97⟩
instance:Und Tryz.prog 99 (dOf Tryz.underlying99):=⟨Tryz.underlying99⟩
instance:Siz Tryz.prog 99 (kOf Tryz.sizeOf99):=⟨Tryz.sizeOf99⟩
instance:Cal Tryz.prog 158:=⟨Tryz.call158⟩
instance:Cal Tryz.prog 159:=⟨Tryz.call159⟩
instance:Cal Tryz.prog 161:=⟨Tryz.call161⟩
attribute [local irreducible] V.CW V.LW V.QW V.RW V.PQ V.Val V.Eff V.Qcall
open V (str byC ownV ownG ownS ownOk)
theorem x_dis (w:World):(callFunc 197 #[]).run Tryz.prog w= .ok (.value (.tuple #[])) w:=run_call_mark0 Tryz.func197 kr_ kr_ kr_ .disable kr_ w
theorem x_en (w:World):(callFunc 199 #[]).run Tryz.prog w= .ok (.value (.tuple #[])) w:=run_call_mark0 Tryz.func199 kr_ kr_ kr_ .enable kr_ w
theorem x_acq (a:Addr)(w:World):(callFunc 200 #[.pointer (some a)]).run Tryz.prog w= .ok (.value (.tuple #[])) w:=run_call_marked Tryz.func200 kr_ kr_ kr_ .acquire kr_ a w
theorem x_rel (a:Addr)(w:World):(callFunc 202 #[.pointer (some a)]).run Tryz.prog w= .ok (.value (.tuple #[])) w:=run_call_marked Tryz.func202 kr_ kr_ kr_ .releaseMerge kr_ a w
theorem x_cas {a:Addr}{w:World}(hc:w.cell? a=some (.int .i32 0))(hz:w.frozen? a=false):(callFunc 198 #[.pointer (some a),.int .i32 0,.int .i32 1]).run Tryz.prog w= .ok (.value (.bool true)) (w.setCell a (.int .i32 1)):=run_call_cas_hit Tryz.func198 kr_ kr_ kr_ .i32 kr_ hc hz
theorem x_add32 {a:Addr}{w:World}(hc:w.cell? a=some (.int .i32 1))(hz:w.frozen? a=false):(callFunc 203 #[.pointer (some a),.int .i32 (-1)]).run Tryz.prog w= .ok (.value (.int .i32 0)) (w.setCell a (.int .i32 0)):=run_call_add Tryz.func203 kr_ kr_ kr_ .i32 kr_ (y:= -1) (s:=0) hc hz (by simp[go_sem];rfl)
theorem x_load32 {a:Addr}{x:Int}{w:World}(hc:w.cell? a=some (.int .u32 x)):(callFunc 110 #[.pointer (some a)]).run Tryz.prog w= .ok (.value (.int .u32 x)) w:=run_call_load Tryz.func110 kr_ kr_ kr_ .u32 kr_ hc
theorem x_store32 {a:Addr}{u:Value}{w:World}(hc:w.cell? a=some u)(hz:w.frozen? a=false):(callFunc 160 #[.pointer (some a),.int .u32 1]).run Tryz.prog w= .ok (.value (.tuple #[])) (w.setCell a (.int .u32 1)):=run_call_store Tryz.func160 kr_ kr_ kr_ kr_ hc hz
theorem bLoad_c (x:Int)(b o:Nat)(l:List Value)(T:TypeId)(w:World)(hl:l[o]? =some (.int .u32 x))(hs:Sat [[(b,.cells l.toArray T (0,0))]] w):Calls Tryz.prog 84 [.pointer (some ⟨b,o,none⟩)].toArray w fun e w'=>e= .returned (.bool (!decide (x=0)))∧Below w.heap.size w w':=by
 refine Cs_ [[(b,.cells l.toArray T (0,0))]] Tryz.func84 rfl Tryz.ntmps84 hs<|pA_ 10 ?_
 refine LW.re 5 (.pointer (some ⟨b,o,none⟩)) rfl rfl<|Lv (Val.ext rfl (fun w hw=>x_load32 (V.cell_of_block (hw.own _ InS.here.mem) (by exact hl))))<|Lv Cm<|LW.re 7 (.bool (!decide (x=0))) rfl (by rfl)<|pA_ 5 ?_
 exact fr_ hs
theorem b32_c:Rz Tryz.prog 161 [.bool true] (.int .u32 1):=by
 intro w
 refine Cb_ Tryz.func161 rfl Tryz.ntmps161<|pA_ 20 ?_
 exact fb_
theorem lockI_c (b o:Nat)(l:List Value)(T:TypeId)(w:World)(hl:l[o]? =some (.int .i32 0))(hs:Sat [[(b,.cells l.toArray T (0,0))]] w):Calls Tryz.prog 158 [.pointer (some ⟨b,o,none⟩)].toArray w fun e w'=>∃_u:Unit,True∧e= .returned (.tuple #[])∧Hp ⟨w,V.ids [[(b,.cells l.toArray T (0,0))]]⟩ [[(b,.cells (l.set o (.int .i32 1)).toArray T (0,0))]] w':=by
 have hl2:(l.set o (.int .i32 1))[o]? =some (.int .i32 1):=by rw[List.getElem?_set_self ((List.getElem?_eq_some_iff.1 hl).1)]
 refine Cs_ [[(b,.cells l.toArray T (0,0))]] Tryz.func158 rfl Tryz.ntmps158 hs<|Sq<|Rg<|Lv (Val.callX rfl (fun w hw=>x_dis w))<|pA_ 8 ?_
 refine LW.re 5 (.pointer (some ⟨b,o,none⟩)) rfl rfl<|Le (Eff.ext (l':=l.set o (.int .i32 1)) rfl .here rfl (fun w hb=>x_cas (V.cell_of_block hb (by exact hl)) (V.frozen_of hb))) fun _ _=>pA_ 7 ?_
 refine Lv (Val.callX rfl (fun w hw=>x_en w))<|pA_ 4 ?_
 refine Lv (Val.toUns rfl Tryz.underlying307 Tryz.underlying311 kr_ (v:= .int .i32 1) (fun w hw=>V.cell_of_block (hw.own _ InS.here.mem) (by exact hl2)))<|Lv (Val.callX rfl (fun w hw=>x_acq _ w))<|pA_ 4 ?_
 refine PQ.ret0 rfl ?_
 intro w' hw;exact⟨(),trivial,rfl,hw⟩
theorem lock_c (b o:Nat)(l:List Value)(T:TypeId)(w:World)(hl:l[o]? =some (.int .i32 0))(hs:Sat [[(b,.cells l.toArray T (0,0))]] w):Calls Tryz.prog 111 [.pointer (some ⟨b,o,none⟩)].toArray w fun e w'=>∃_u:Unit,True∧e= .returned (.tuple #[])∧Hp ⟨w,V.ids [[(b,.cells l.toArray T (0,0))]]⟩ [[(b,.cells (l.set o (.int .i32 1)).toArray T (0,0))]] w':=by
 refine Cs_ [[(b,.cells l.toArray T (0,0))]] Tryz.func111 rfl Tryz.ntmps111 hs<|pA_ 4 ?_
 refine LW.re 4 (.pointer (some ⟨b,o,none⟩)) rfl rfl<|Le (CM ([[(b,.cells l.toArray T (0,0))]]) fun w hw hs=>lockI_c b o l T w hl hs) fun _ _=>Nl<|PQ.end0 rfl ?_
 intro w' hw;exact⟨(),trivial,rfl,hw⟩
theorem unlI_c (b o:Nat)(l:List Value)(T:TypeId)(w:World)(hl:l[o]? =some (.int .i32 1))(hs:Sat [[(b,.cells l.toArray T (0,0))]] w):Calls Tryz.prog 159 [.pointer (some ⟨b,o,none⟩)].toArray w fun e w'=>∃_u:Unit,True∧e= .returned (.tuple #[])∧Hp ⟨w,V.ids [[(b,.cells l.toArray T (0,0))]]⟩ [[(b,.cells (l.set o (.int .i32 0)).toArray T (0,0))]] w':=by
 refine Cs_ [[(b,.cells l.toArray T (0,0))]] Tryz.func159 rfl Tryz.ntmps159 hs<|Sq<|Ct<|Sq<|Rg<|Lv Mv<|Lv Nz<|Lv (Fa 0 21)<|LW.re 5 (.pointer (some ⟨b,o,none⟩)) rfl rfl<|Lv (Val.load (v:= .int .i32 1) rfl Tryz.isAgg21 in_ (by exact hl))<|Nl<|Ps<|Sq<|Rg<|Lv Mv<|Lv (Val.toUns rfl Tryz.underlying307 Tryz.underlying311 kr_ (v:= .int .i32 1) (fun w hw=>V.cell_of_block (hw.own _ InS.here.mem) (by exact hl)))<|Lv (Val.callX rfl (fun w hw=>x_rel _ w))<|Nl<|Ps<|Rg<|Lv (Val.callX rfl (fun w hw=>x_dis w))<|Nl<|Ps<|Sq<|Rg<|Lv Mv<|Lv Nz<|Lv (Fa 0 21)<|LW.re 13 (.pointer (some ⟨b,o,none⟩)) rfl rfl<|Le (Eff.ext (l':=l.set o (.int .i32 0)) rfl .here rfl (fun w hb=>x_add32 (V.cell_of_block hb (by exact hl)) (V.frozen_of hb))) fun _ _=>Lv Av<|Nl<|Ps<|Sq<|Sq<|Rg<|Lv Mv<|Lv Cm<|Nl<|Ps<|Cf<|Sk<|Ps<|Rg<|Lv (Val.callX rfl (fun w hw=>x_en w))<|Nl<|PQ.end0 rfl ?_
 intro w' hw;exact⟨(),trivial,rfl,hw⟩
theorem unl_d (b o:Nat)(l:List Value)(T:TypeId)(w:World)(hl:l[o]? =some (.int .i32 1))(hs:Sat [[(b,.cells l.toArray T (0,0))]] w):CallsD Tryz.prog 112 [.pointer (some ⟨b,o,none⟩)].toArray .returning w fun e u w'=>u= .returning∧∃_u:Unit,True∧e= .returned (.tuple #[])∧Hp ⟨w,V.ids [[(b,.cells l.toArray T (0,0))]]⟩ [[(b,.cells (l.set o (.int .i32 0)).toArray T (0,0))]] w':=by
 refine V.callsD [[(b,.cells l.toArray T (0,0))]] Tryz.func112 rfl Tryz.ntmps112 (Nat.le_of_ble_eq_true rfl) hs<|pA_ 4 ?_
 refine LW.re 4 (.pointer (some ⟨b,o,none⟩)) rfl rfl<|Le (CM ([[(b,.cells l.toArray T (0,0))]]) fun w hw hs=>unlI_c b o l T w hl hs) fun _ _=>Nl<|PQ.end0 rfl ?_
 intro w' hw;exact⟨(),trivial,rfl,hw⟩
theorem sto_d (u:Value)(b o:Nat)(l:List Value)(T:TypeId)(w:World)(hl:l[o]? =some u)(hs:Sat [[(b,.cells l.toArray T (0,0))]] w):CallsD Tryz.prog 113 [.pointer (some ⟨b,o,none⟩),.bool true].toArray .returning w fun e u w'=>u= .returning∧∃_u:Unit,True∧e= .returned (.tuple #[])∧Hp ⟨w,V.ids [[(b,.cells l.toArray T (0,0))]]⟩ [[(b,.cells (l.set o (.int .u32 1)).toArray T (0,0))]] w':=by
 refine V.callsD [[(b,.cells l.toArray T (0,0))]] Tryz.func113 rfl Tryz.ntmps113 (Nat.le_of_ble_eq_true rfl) hs<|Dr ([])<|pR_ [0,1,2] ?_
 refine RW.re 6 (.pointer (some ⟨b,o,none⟩)) rfl rfl<|Rv 3 rfl Mv<|Re 4 rfl (Cz_ b32_c) fun _ _=>Re 5 rfl (Eff.ext (l':=l.set o (.int .u32 1)) rfl .here rfl (fun w hb=>x_store32 (V.cell_of_block hb (by exact hl)) (V.frozen_of hb))) fun _ _=>Rd<|PQ.end0 rfl ?_
 intro w' hw;exact⟨(),trivial,rfl,hw⟩
end
end Go.Proofs.YtjidffamcdcecaaGreat
namespace Go.Proofs.YtjidffamcdcecaaGreat
open Go Go.RowKit V
set_option linter.unusedVariables false
set_option maxRecDepth 100000
set_option maxHeartbeats 1000000
namespace G
section
attribute [local irreducible] V.CW V.LW V.QW V.RW V.PQ V.Val V.Eff V.Qcall
open V (str byC ownV ownG ownS ownOk)
instance:Cal Tryz.prog 139:=⟨Tryz.call139⟩
def spanF (c:Int):Nat:=if 0≤c∧c≤3 then 2^c.toNat else 0
def capF (c:Int):Int:=if spanF c=0 then 0 else 28+((spanF c:Int)-1)*63
theorem spanF_cases (c:Int):(c=0∧spanF c=1)∨(c=1∧spanF c=2)∨(c=2∧spanF c=4)∨(c=3∧spanF c=8)∨((c<0∨3<c)∧spanF c=0):=by
 by_cases h:0≤c∧c≤3
 ·have:c=0∨c=1∨c=2∨c=3:=by omega
  rcases this with rfl|rfl|rfl|rfl<;>simp[spanF]
 ·refine .inr (.inr (.inr (.inr ⟨by omega,by unfold spanF;rw[if_neg h]⟩)))
theorem span_le (c:Int):spanF c≤8:=by rcases spanF_cases c with⟨_,h⟩|⟨_,h⟩|⟨_,h⟩|⟨_,h⟩|⟨_,h⟩<;>omega
theorem cap_cases (c:Int):(c=0∧capF c=28)∨(c=1∧capF c=91)∨(c=2∧capF c=217)∨(c=3∧capF c=469)∨((c<0∨3<c)∧capF c=0):=by
 unfold capF
 rcases spanF_cases c with⟨a,h⟩|⟨a,h⟩|⟨a,h⟩|⟨a,h⟩|⟨a,h⟩<;>rw[h]<;>simp[a]
def needF (n:Int):Int:=if n<0 then -1 else if n≤28 then 0 else if n≤91 then 1 else if n≤217 then 2 else if n≤469 then 3 else -1
def slabF (k:Int):Int:=if k<0∨32≤k then -1 else 2+k*8
def slabOfF (line:Int):Int:=if line<2∨258≤line then -1 else(line-2).tdiv 8
def startsF (k c:Int):List Int:=if spanF c=0∨slabF k<0 then[] else(List.range (8/spanF c)).map fun i=>slabF k+(i:Nat)*(spanF c:Nat)
theorem starts_len (k c:Int):(startsF k c).length≤8:=by
 unfold startsF
 by_cases h:spanF c=0∨slabF k<0
 ·rw[if_pos h];simp
 ·rw[if_neg h]
  simp only[List.length_map,List.length_range]
  exact Nat.div_le_self _ _
def homeF (line c:Int):Bool:=decide (line∈startsF (slabOfF line) c)
theorem span_c (c:Int):Rz Tryz.prog 94 [.int .i64 c] (.int .i64 (spanF c:Nat)):=by
 intro w
 refine Cb_ Tryz.func94 rfl Tryz.ntmps94<|pA_ 11 ?_
 refine LW.split (d:=5) rfl (fun h5=>?_) (fun h5=>?_)
 ·replace h5:=bT h5
  refine pA_ 14 ?_
  intro w' hw;exact⟨by unfold spanF;rw[if_neg om_];rfl,hw.below⟩
 ·replace h5:=bF h5
  refine pA_ 5 ?_
  refine Cd_ rfl (fun h8=>?_) fun h8=>?_
  ·refine pA_ 8 ?_
   intro w' hw;exact⟨by unfold spanF;rw[if_neg om_];rfl,hw.below⟩
  ·refine pA_ 5 ?_
   refine Lv (Val.shl rfl rfl om_)<|pA_ 5 ?_
   have h9:c=0∨c=1∨c=2∨c=3:=by omega
   intro w' hw;exact⟨by rcases h9 with rfl|rfl|rfl|rfl<;>rfl,hw.below⟩
theorem cap_c (c:Int):Rz Tryz.prog 139 [.int .i64 c] (.int .i64 (capF c)):=by
 intro w
 have hsp:=span_le c
 refine Cb_ Tryz.func139 rfl Tryz.ntmps139<|pA_ 9 ?_
 refine Le (Cz_ (span_c c)) fun _ _=>pA_ 9 ?_
 refine Cd_ rfl (fun h7=>?_) fun h7=>?_
 ·refine pA_ 12 ?_
  intro w' hw;exact⟨by unfold capF;rw[if_neg om_],hw.below⟩
 ·refine pA_ 9 ?_
  intro w' hw;exact⟨by unfold capF;rw[if_pos om_],hw.below⟩
theorem need_c (n:Int):Rz Tryz.prog 181 [.int .i64 n] (.int .i64 (needF n)):=by
 intro w
 refine Cb_ Tryz.func181 rfl Tryz.ntmps181<|pA_ 12 ?_
 refine Cd_ rfl (fun h5=>?_) fun h5=>?_
 ·refine pA_ 8 ?_
  intro w' hw;exact⟨by unfold needF;rw[if_pos h5],hw.below⟩
 ·refine pA_ 9 ?_
  refine loopA (γ:=Nat) (fun k=>[(0,.int .i64 n),(6,.int .i64 (k:Nat))]) (fun _=>[]) (fun k=>k≤4∧0≤n∧∀j:Nat,j<k→capF j<n) (fun k=>4-k) (0) ⟨by omega,by omega,fun j hj=>by omega⟩ fun k=>?_
  rintro⟨hk1,hk2,hk3⟩
  refine pA_ 6 ?_
  refine Cd_ rfl (fun h7=>?_) fun h7=>?_
  ·refine pA_ 13 ?_
   refine Le (Cz_ (cap_c (k:Nat))) fun _ _=>pA_ 4 ?_
   refine Cd_ rfl (fun h12=>?_) fun h12=>?_
   ·have h12:n≤capF (k:Nat):=h12
    refine pA_ 13 ?_
    have h0:=hk3 0
    have h1:=hk3 1
    have h2:=hk3 2
    have h3:=hk3 3
    have e0:capF ((0:Nat):Int)=28:=rfl
    have e1:capF ((1:Nat):Int)=91:=rfl
    have e2:capF ((2:Nat):Int)=217:=rfl
    have e3:capF ((3:Nat):Int)=469:=rfl
    rw[e0] at h0
    rw[e1] at h1
    rw[e2] at h2
    rw[e3] at h3
    have hk:k=0∨k=1∨k=2∨k=3:=by omega
    have e4:needF n=(k:Nat):=by
     unfold needF
     rcases hk with rfl|rfl|rfl|rfl
     ·rw[e0] at h12;rw[if_neg om_,if_pos om_];rfl
     ·rw[e1] at h12;rw[if_neg om_,if_neg om_,if_pos om_];rfl
     ·rw[e2] at h12;rw[if_neg om_,if_neg om_,if_neg om_,if_pos om_];rfl
     ·rw[e3] at h12;rw[if_neg om_,if_neg om_,if_neg om_,if_neg om_,if_pos om_];rfl
    intro w' hw;exact⟨by rw[e4],hw.below⟩
   ·have h12:capF (k:Nat)<n:=h12
    refine pA_ 7 ?_
    refine PQ.round (k+1) ⟨by omega,hk2,fun j hj=>by
     rcases Nat.lt_or_ge j k with h|h
     ·exact hk3 j h
     ·have e:j=k:=by omega
      rw[e];exact h12⟩ om_ (by repeat(first|exact trivial|refine⟨rfl,?_⟩)) pk_
  ·refine pA_ 12 ?_
   have h0:=hk3 0
   have h1:=hk3 1
   have h2:=hk3 2
   have h3:=hk3 3
   have e0:capF ((0:Nat):Int)=28:=rfl
   have e1:capF ((1:Nat):Int)=91:=rfl
   have e2:capF ((2:Nat):Int)=217:=rfl
   have e3:capF ((3:Nat):Int)=469:=rfl
   rw[e0] at h0
   rw[e1] at h1
   rw[e2] at h2
   rw[e3] at h3
   have e4:needF n= -1:=by
    unfold needF
    rw[if_neg om_,if_neg om_,if_neg om_,if_neg om_,if_neg om_]
   intro w' hw;exact⟨by rw[e4],hw.below⟩
theorem slabOf_c (line:Int):Rz Tryz.prog 187 [.int .i64 line] (.int .i64 (slabOfF line)):=by
 intro w
 refine Cb_ Tryz.func187 rfl Tryz.ntmps187<|pA_ 11 ?_
 refine LW.split (d:=5) rfl (fun h5=>?_) (fun h5=>?_)
 ·replace h5:=bT h5
  refine pA_ 14 ?_
  intro w' hw;exact⟨by unfold slabOfF;rw[if_pos om_],hw.below⟩
 ·replace h5:=bF h5
  refine pA_ 5 ?_
  refine Cd_ rfl (fun h8=>?_) fun h8=>?_
  ·refine pA_ 8 ?_
   intro w' hw;exact⟨by unfold slabOfF;rw[if_pos om_],hw.below⟩
  ·refine pA_ 6 ?_
   refine Lv (Val.quo rfl rfl om_)<|pA_ 5 ?_
   intro w' hw;exact⟨by unfold slabOfF;rw[if_neg om_,IntWalk.i64_in _ (by rw[Int.tdiv_eq_ediv_of_nonneg om_];omega)],hw.below⟩
theorem slab_c (k:Int):Rz Tryz.prog 225 [.int .i64 k] (.int .i64 (slabF k)):=by
 intro w
 refine Cb_ Tryz.func225 rfl Tryz.ntmps225<|pA_ 11 ?_
 refine LW.split (d:=5) rfl (fun h5=>?_) (fun h5=>?_)
 ·replace h5:=bT h5
  refine pA_ 14 ?_
  intro w' hw;exact⟨by unfold slabF;rw[if_pos om_],hw.below⟩
 ·replace h5:=bF h5
  refine pA_ 5 ?_
  refine Cd_ rfl (fun h8=>?_) fun h8=>?_
  ·refine pA_ 8 ?_
   intro w' hw;exact⟨by unfold slabF;rw[if_pos om_],hw.below⟩
  ·refine pA_ 12 ?_
   intro w' hw;exact⟨by unfold slabF;rw[if_neg om_],hw.below⟩
end
end G
end Go.Proofs.YtjidffamcdcecaaGreat
namespace Go.Proofs.YtjidffamcdcecaaGreat.V
open Go Go.RowKit
set_option linter.unusedVariables false
section
variable {P:Program}{n:Nat}{B:Base}{ks:Ks}{sg:Sg}{d:Option Tmp}{ty:TypeId}{pos:String}{aft:Array Edge}{g:Option (Nat×Bool)}
theorem run_copyStr (w:World)(dT sT ty elem:TypeId)(g o dLen dCap m sz:Nat)(l:List UInt8)(cur:Array Value)(t:TypeId)
 (hu:P.underlying dT=some (.slice elem))(hs:(P.info? elem).map (·.size)=some sz)
 (hg:w.heap[g]? =some (.cells cur t (0,0)))(hm:Nat.min l.length dLen=m)(hfit:o+m≤cur.size):
 (Builtin.copy_ #[dT,sT] ty #[.slice (some ⟨g,o,none⟩) dLen dCap,str l]).run P w=
  .ok (goInt m) (w.setRow g (cur.toList.take o++byC (l.take m)++cur.toList.drop (o+m)).toArray):=by
 have hlen:(byC (l.take m)).length=m:=by rw[byC_len,List.length_take];have:Nat.min l.length dLen≤l.length:=Nat.min_le_left _ _;omega
 have hst:=run_storeCells_at P g o t (byC (l.take m)) 0 cur w hg (by rw[hlen];simpa using hfit) (fun v hv=>List.all_eq_true.1 (byC_one _) v hv)
 rw[hlen] at hst
 have hx3:List.take m (List.map (fun b:UInt8=>Value.int .u8 (b.toNat:Int)) l)=byC (List.take m l):=by simp[byC,Go.Lib.byteCells,List.map_take]
 cases hq:P.info? elem with
 |none=>simp[hq] at hs
 |some i=>
  have hi:i.size=sz:=by simpa[hq] using hs
  have hz:(⟨l.toArray⟩:ByteArray).size=l.length:=str_size l
  simp[Builtin.copy_,str,run_underlying hu,Builtin.lenOf,Builtin.firstCells,sizeOf,typeInfo,hq,hz,hm,hx3,hst]
theorem Eff.copyStr {T t t2 e sz gb o dl dc m:Nat}{x y:Operand}{l:List UInt8}{cur cells':List Value}{sg':Sg}(hx:ev ks x=some (.slice (some ⟨gb,o,none⟩) dl dc))(hy:ev ks y=some (str l))(hu:P.underlying t=some (.slice e))(hs:(P.info? e).map (·.size)=some sz)
 (hU:Upd gb (.cells cur.toArray T (0,0)) (.cells cells'.toArray T (0,0)) sg sg')(hc:cur.take o++byC (l.take m)++cur.drop (o+m)=cells')(hm:Nat.min l.length dl=m)(hfit:o+m≤cur.length):
 Eff P n B ⟨d,.call {callee:= .builtin .copy,args:=#[x,y],argTypes:=#[t,t2]},ty,pos,aft,g⟩ ks sg (α:=Unit) (fun _=>True) (fun _=> .int .i64 (m:Nat)) (fun _=>sg'):=fun ac w K Q ha hw hk=>by
 have e1:=ha.ev hx
 have e2:=ha.ev hy
 have hb:=hw.own _ hU.mem
 simp only at hb
 have hrun:=run_copyStr (P:=P) w t t2 ty e gb o dl dc m sz l cur.toArray T hu hs hb hm (by simpa using hfit)
 simp only[hc] at hrun
 unfold Oper.wp
 have hex:(execOp ac.eval ⟨d,.call {callee:= .builtin .copy,args:=#[x,y],argTypes:=#[t,t2]},ty,pos,aft,g⟩).run P w= .ok (.value (.int .i64 (m:Nat))) (w.setRow gb cells'.toArray):=by
  simp only[execOp,resolve,invoke,Go.builtin,Sem.run_bind,Sem.run_pure,Result.andThen_ok,List.map_toArray,List.map_cons,List.map_nil,e1,e2,hrun]
  rfl
 rw[hex]
 refine hk () _ trivial (hw.upd hU rfl rfl rfl (by simp[World.setRow]) ?_ (fun k hk=>?_))
 ·simp[World.setRow,Array.getElem?_modify,hb]
 ·simp[World.setRow,Array.getElem?_modify,Ne.symm hk]
theorem Val.copy0 {t t2 e sz dl dc sl sc:Nat}{p q:Option Addr}{x y:Operand}(hx:ev ks x=some (.slice p dl dc))(hy:ev ks y=some (.slice q sl sc))(hu:P.underlying t=some (.slice e))(hs:(P.info? e).map (·.size)=some sz)(hm:Nat.min sl dl=0):
 Val P n B ⟨d,.call {callee:= .builtin .copy,args:=#[x,y],argTypes:=#[t,t2]},ty,pos,aft,g⟩ ks sg (.int .i64 0):=fun ac w ha hw=>by
 have e1:=ha.ev hx
 have e2:=ha.ev hy
 cases hq:P.info? e with
 |none=>simp[hq] at hs
 |some i=>
  have h0:∀a:Addr,(loadCells a 0).run P w= .ok #[] w:=fun a=>run_loadCells_list (P:=P) w a [] (fun j v hj=>by simp at hj)
  have hrun:(Builtin.copy_ #[t,t2] ty #[.slice p dl dc,.slice q sl sc]).run P w= .ok (goInt 0) w:=by
   cases p<;>cases q<;>simp[Builtin.copy_,run_underlying hu,Builtin.lenOf,Builtin.firstCells,sizeOf,typeInfo,hq,hm,h0,storeCells]
  simp only[execOp,resolve,invoke,Go.builtin,Sem.run_bind,Sem.run_pure,Result.andThen_ok,List.map_toArray,List.map_cons,List.map_nil,e1,e2,hrun]
  rfl
theorem Val.convSl {src dst e:TypeId}{x:Operand}{p:Option Addr}{l:List UInt8}{c:Nat}(hx:ev ks x=some (.slice p l.length c))(hs:P.underlying src=some (.slice e))(he:P.underlying e=some (.int .u8))(hd:P.underlying dst=some .string)
 (hr:∀w,Hp B sg w→slAt w p 1 (fun u:UInt8=>[Value.int .u8 (u.toNat:Nat)]) l):Val P n B ⟨d,.convert src dst x,ty,pos,aft,g⟩ ks sg (str l):=fun a w ha hw=>by
 show(do pure (Next.value (← convert src dst (a.eval x))):Sem Next).run P w=_
 rw[ha.ev hx]
 refine run_value ?_
 rcases hr w hw with h|⟨b,o,rfl,hb,h⟩
 ·subst h
  cases p with
  |none=>exact run_convert_bytes_nil w src e hs he 0 c dst hd
  |some q=>exact run_convert_bytes_back w src dst e q c [] hs he hd (fun j hj=>by simp at hj)
 ·refine run_convert_bytes_back w src dst e ⟨b,o,none⟩ c l hs he hd (fun j hj=>?_)
  rw[Addr.add_mid]
  have:=h j l[j] (by simp) 0 _ rfl
  simpa using this
end
end Go.Proofs.YtjidffamcdcecaaGreat.V
namespace Go.Proofs.YtjidffamcdcecaaGreat
open Go Go.RowKit V
set_option linter.unusedVariables false
set_option maxRecDepth 100000
set_option maxHeartbeats 1000000
namespace G
section
attribute [local irreducible] V.CW V.LW V.QW V.RW V.PQ V.Val V.Eff V.Qcall
open V (str byC ownV ownG ownS ownOk)
theorem places144:∀w,((Array.mapM (fun(f:Field)=>do pure (f.offset,← sizeOf f.type)) (Tryz.prog.fieldsOf 144):Sem (Array (Nat×Nat)))).run Tryz.prog w= .ok [(0,1),(1,1),(2,1),(3,1),(4,1),(5,1),(6,1)].toArray w:=by
 intro w;kernel_rfl
instance:Plc Tryz.prog 144 (fOf Tryz.underlying144) (lOf (P:=Tryz.prog) places144):=⟨places144,Tryz.underlying144⟩
instance:Cal Tryz.prog 181:=⟨Tryz.call181⟩
instance:Cal Tryz.prog 182:=⟨Tryz.call182⟩
def byteF (x:Int):UInt8:=UInt8.ofNat (IntKind.u8.wrap x).toNat
theorem byteF_eq (x:Int):Value.int .u8 (IntKind.u8.wrap x)= .int .u8 ((byteF x).toNat:Nat):=by rw[u8_byte x];rfl
theorem zeros_byC (m:Nat):V.repL [.int .u8 0] m=byC (List.replicate m 0):=by
 rw[V.repL_one];simp[byC,Go.Lib.byteCells]
theorem set_byC (l:List UInt8)(i:Nat)(u:UInt8):(byC l).set i (.int .u8 (u.toNat:Nat))=byC (l.set i u):=by
 simp[byC,Go.Lib.byteCells,List.map_set]
theorem byE_of {w:World}{b:Nat}{l:List UInt8}{T:Nat}(h:w.heap[b]? =some (.cells (byC l).toArray T (0,0))):V.slAt w (some ⟨b,0,none⟩) 1 byE l:=by
 refine .inr ⟨b,0,rfl,V.lt_of_some h,fun i x hx=>?_⟩
 refine V.range_of_block (r:=byC (l.drop (i+1))) h ?_
 have hi:=(List.getElem?_eq_some_iff.1 hx).1
 rw[Nat.zero_add,Nat.mul_one]
 show List.drop i (List.map _ l)=_
 rw[← List.map_drop,List.drop_eq_getElem_cons hi,(List.getElem?_eq_some_iff.1 hx).2]
 rfl
def putL (l:List UInt8)(at_ n:Nat)(v:Int):List UInt8:=if fitB v n=true then putN l at_ v n else l
theorem putL_len (l:List UInt8)(at_ n:Nat)(v:Int):(putL l at_ n v).length=l.length:=by unfold putL;split;exact putN_len _ _ _ _;rfl
def addF (c:Int)(l:List UInt8):Int:=xorI (l.foldl stepB (xorI c 4294967295)) 4294967295
theorem add_c (c:Int)(l:List UInt8)(p:Option Addr)(cp:Nat)(hl:l.length≤100000)(w:World)(hp:V.slAt w p 1 byE l):Calls Tryz.prog 184 [.int .u32 c,.slice p l.length cp].toArray w fun e w'=>e= .returned (.int .u32 (addF c l))∧Below w.heap.size w w':=by
 refine Cb_ Tryz.func184 rfl Tryz.ntmps184<|pA_ 8 ?_
 refine Lv (Val.xor rfl rfl)<|LW.re 8 (.int .u32 (xorI c 4294967295)) rfl (by rfl)<|pA_ 12 ?_
 refine loopA (γ:=Nat) (fun j=>[(0,.int .u32 ((l.take j).foldl stepB (xorI c 4294967295))),(9,.slice p l.length cp),(10,.int .i64 (l.length:Nat)),(11,.int .i64 (j:Nat))]) (fun _=>[]) (fun j=>j≤l.length) (fun j=>l.length-j) (0) (Nat.zero_le _) fun j hj=>pA_ 6 ?_
 refine Cd_ rfl (fun h12=>?_) fun h12=>?_
 ·obtain⟨pb,po,u,rfl,hpb,huj,hpr⟩:=V.slAt_at hp rfl (k:=j) om_
  refine pA_ 7 ?_
  refine Lv (Val.loadO rfl Tryz.isAgg5 hpb (by simp[ids]) (hpr j u huj 0 _ rfl))<|pA_ 6 ?_
  refine Le (Cz_ (step_c ((l.take j).foldl stepB (xorI c 4294967295)) u)) fun _ _=>LW.re 17 (.int .u32 ((l.take (j+1)).foldl stepB (xorI c 4294967295))) rfl (by rw[fold_take huj])<|pA_ 8 ?_
  exact roundA (j+1) om_ om_
 ·have hte:l.take j=l:=List.take_of_length_le om_
  refine pA_ 8 ?_
  refine Lv (Val.xor rfl rfl)<|LW.re 20 (.int .u32 (addF c l)) rfl (by rw[hte];rfl)<|pA_ 5 ?_
  exact fb_
theorem put1_c (b T:Nat)(l:List UInt8)(at_ n:Nat)(v:Int)(hf:fitB v n=true)(h1:1≤n∧n≤8)(h2:at_+n≤l.length)(h3:l.length≤1000):Mo Tryz.prog 183 [.slice (some ⟨b,0,none⟩) l.length l.length,.int .i64 (at_:Nat),.int .i64 (n:Nat),.int .u64 v] [[(b,.cells (byC l).toArray T (0,0))]] (fun _u:Unit=>True) (fun _=> .tuple #[]) (fun _=>[[(b,.cells (byC (putL l at_ n v)).toArray T (0,0))]]):=by
 intro w hs
 refine Ca_ Tryz.func183 rfl Tryz.ntmps183 hs<|pA_ 6 ?_
 refine Le (CM [] fun w hw hs=>put_c l _ l.length at_ n v h1 h2 h3 w (byE_of hw.at)) fun o ho=>?_
 rw[show putR l at_ v n=putN l at_ v n from putR_fit hf] at*
 obtain⟨gb,rest,cap,rfl⟩:=some_of ho (by rw[putN_len];omega)
 refine pA_ 4 ?_
 refine LW.re 8 (.slice (some ⟨gb,0,none⟩) l.length cap) rfl (by rw[putN_len];rfl)<|pA_ 6 ?_
 refine Le (Eff.copyT (cs:=byC (putN l at_ v n)) (gb:=b) (cur:=byC l) (cells':=byC (putL l at_ n v)) (m:=l.length) (sz:=1) rfl rfl Tryz.underlying133 kr_ up_ (by rw[V.byC_len,putN_len,List.drop_eq_nil_iff.2 (by rw[V.byC_len];omega)];unfold putL;rw[if_pos hf];simp) (Nat.min_self _) (by rw[V.byC_len,putN_len,Nat.mul_one]) (fun w1 hw1 j u hj=>by rw[Addr.add_mid];exact V.range_of_block (o:=0) (r:=rest) (hw1.at (b:=gb)) (by rw[byC_flat];rfl) j u hj) (by rw[V.byC_len,V.byC_len,putN_len];omega) (V.byC_one _)) fun _ _=>Nl<|PQ.end0 rfl ?_
 exact fi_ () trivial
theorem put0_c (b T:Nat)(l:List UInt8)(at_ n:Nat)(v:Int)(hf:fitB v n=false)(h1:1≤n∧n≤8)(h2:at_+n≤l.length)(h3:l.length≤1000):Mo Tryz.prog 183 [.slice (some ⟨b,0,none⟩) l.length l.length,.int .i64 (at_:Nat),.int .i64 (n:Nat),.int .u64 v] [[(b,.cells (byC l).toArray T (0,0))]] (fun _u:Unit=>True) (fun _=> .tuple #[]) (fun _=>[[(b,.cells (byC (putL l at_ n v)).toArray T (0,0))]]):=by
 intro w hs
 refine Ca_ Tryz.func183 rfl Tryz.ntmps183 hs<|pA_ 6 ?_
 refine Le (CM [] fun w hw hs=>put_c l _ l.length at_ n v h1 h2 h3 w (byE_of hw.at)) fun o ho=>?_
 have e8:putR l at_ v n=[]:=by unfold putR;rw[if_neg (by simp[hf])]
 rw[e8] at*
 obtain⟨p8,c8,hv8⟩:∃p c,ownV ([]:List UInt8).length o= .slice p 0 c:=by rcases o with _|⟨_,_,_⟩<;>exact⟨_,_,rfl⟩
 rw[hv8]
 refine pA_ 10 ?_
 refine Lv (Val.copy0 (sz:=1) (p:=some ⟨b,0,none⟩) (dl:=l.length) (sl:=0) rfl rfl Tryz.underlying133 kr_ (Nat.zero_min _))<|Nl<|PQ.end0 rfl ?_
 intro w' hw;exact⟨(),trivial,rfl,by unfold putL;rw[if_neg (by simp[hf])];exact hw.pick pk_⟩
theorem bget_c (l:List UInt8)(p:Option Addr)(cp at_ n:Nat)(h1:1≤n∧n≤8)(h2:at_+n≤l.length)(h3:l.length≤1000)(w:World)(hp:V.slAt w p 1 byE l):Calls Tryz.prog 95 [.slice p l.length cp,.int .i64 (at_:Nat),.int .i64 (n:Nat)].toArray w fun e w'=>e= .returned (.int .u64 (getN l at_ n))∧Below w.heap.size w w':=by
 refine Cb_ Tryz.func95 rfl Tryz.ntmps95<|pA_ 10 ?_
 refine Le (CV fun w hw=>get_c l p cp at_ n h1 h2 h3 w (hw.slAt hp (by simp[ids]))) fun _ _=>pA_ 15 ?_
 exact fb_
def numF (v:Int):Bool:=decide (1≤v∧v≤2305843009213693952)
structure Blk where
 cls:Int
 kind:Int
 id:Int
 ver:Int
 ep:Int
 key:List UInt8
 val:List UInt8
 deriving DecidableEq
def blC (x:Blk):List Value:=[.int .i64 x.cls,.int .i64 x.kind,.int .u64 x.id,.int .u64 x.ver,.int .u64 x.ep,str x.key,str x.val]
def mayF (x:Blk):Bool:=
 if spanF x.cls=0 then false
 else if x.kind=0 then decide (x.id=0∧x.ver=0∧x.ep=0∧x.key=[]∧x.val=[])
 else(if x.kind=1 then decide (1≤x.key.length∧x.key.length≤16∧x.val.length≤400∧needF ((x.key.length:Int)+x.val.length)=x.cls)
  else if x.kind=2 then decide (x.key=[]∧x.val.length≤400∧needF (x.val.length:Int)=x.cls)
  else if x.kind=3 then decide (x.key=[]∧x.val=[]∧x.cls=0) else false)&&(numF x.id&&(numF x.ver&&numF x.ep))
theorem may_pre {x:Blk}{n:Nat}(hsp:spanF x.cls≠0)(hn:(x.kind=1∧1≤x.key.length∧x.key.length≤16∧n=x.val.length)∨(x.kind=2∧n=x.key.length+x.val.length)):mayF x=(decide (¬(x.kind=2∧¬x.key=[])∧n≤400∧needF (x.key.length+n)=x.cls)&&(numF x.id&&(numF x.ver&&numF x.ep))):=by
 unfold mayF
 rcases hn with⟨k1,h1,h2,h3⟩|⟨k2,h3⟩
 ·subst h3
  rw[if_neg hsp,if_neg om_,if_pos k1]
  congr 1
  rw[decide_eq_decide]
  exact⟨fun h=>⟨by omega,h.2.2⟩,fun h=>⟨h1,h2,h.2⟩⟩
 ·subst h3
  rw[if_neg hsp,if_neg om_,if_neg om_,if_pos k2]
  congr 1
  rw[decide_eq_decide]
  by_cases hk:x.key=[]
  ·rw[hk]
   simp
  ·simp[hk,k2]
theorem number_c (v:Int):Rz Tryz.prog 182 [.int .u64 v] (.bool (numF v)):=by
 intro w
 refine Cb_ Tryz.func182 rfl Tryz.ntmps182<|pA_ 10 ?_
 refine LW.split (d:=5) rfl (fun h5=>?_) (fun h5=>?_)
 ·replace h5:=bT h5
  refine pA_ 8 ?_
  intro w' hw;exact⟨by congr 1;unfold numF;simp;omega,hw.below⟩
 ·replace h5:=bF h5
  refine pA_ 8 ?_
  intro w' hw;exact⟨by congr 1;unfold numF;simp;omega,hw.below⟩
theorem may_c (x:Blk)(hl:x.key.length≤100000∧x.val.length≤100000):Rz Tryz.prog 138 [.agg (blC x).toArray] (.bool (mayF x)):=by
 intro w
 refine Cb_ Tryz.func138 rfl Tryz.ntmps138<|Sq<|Rg<|Le XA fun b1 _=>pA_ 7 ?_
 refine Lv Ld<|Le (Cz_ (span_c x.cls)) fun _ _=>pA_ 3 ?_
 refine Cd_ rfl (fun h7=>?_) fun h7=>?_
 ·refine pA_ 8 ?_
  have hsp:spanF x.cls=0:=by omega
  intro w' hw;exact⟨by unfold mayF;rw[if_pos hsp],hw.below⟩
 ·refine pA_ 5 ?_
  refine Lv Ld<|Lv LnS<|Lv (Fa 6 9)<|Lv Ld<|pA_ 6 ?_
  refine CW.join (fun _:Unit=>mayF x=(numF x.id&&(numF x.ver&&numF x.ep))) (fun _=>[(1,.pointer (some ⟨b1,0,none⟩))]) (fun _=>[[(b1,.cells (blC x).toArray 144 (0,0))]]) ?_ ?_
  ·refine pA_ 3 ?_
   refine Lv Ld<|pA_ 8 ?_
   refine CW.join (fun n:Nat=>spanF x.cls≠0∧((x.kind=1∧1≤x.key.length∧x.key.length≤16∧n=x.val.length)∨(x.kind=2∧n=x.key.length+x.val.length))) (fun n=>[(1,.pointer (some ⟨b1,0,none⟩)),(3,.int .i64 (n:Nat))]) (fun _=>[[(b1,.cells (blC x).toArray 144 (0,0))]]) ?_ ?_
   ·refine pA_ 13 ?_
    refine Cd_ rfl (fun h17=>?_) fun h17=>?_
    ·refine pA_ 8 ?_
     refine Lv Lw<|Lv (Fa 0 3)<|Lv Ld<|Lv (Bd [_,_,_,_,_,_,_])<|Lv (Val.eqA rfl rfl kr_ Tryz.underlying144 kr_ (by exact(.int rfl rfl Tryz.isAgg3 Tryz.underlying3 (.int rfl rfl Tryz.isAgg3 Tryz.underlying3 (.int rfl rfl Tryz.isAgg48 Tryz.underlying48 (.int rfl rfl Tryz.isAgg48 Tryz.underlying48 (.int rfl rfl Tryz.isAgg48 Tryz.underlying48 (.str rfl rfl Tryz.isAgg9 Tryz.underlying9 (.str rfl rfl Tryz.isAgg9 Tryz.underlying9 .nil)))))))))<|pA_ 16 ?_
     have hsp:¬spanF x.cls=0:=by omega
     intro w' hw;exact⟨by unfold mayF;rw[if_neg hsp,if_pos h17];congr 2;rw[Bool.eq_iff_iff];simp[h17],hw.below⟩
    ·refine pA_ 9 ?_
     refine Cd_ rfl (fun h19=>?_) fun h19=>?_
     ·refine pA_ 11 ?_
      refine Lv Ld<|pA_ 3 ?_
      refine LW.split (d:=34) rfl (fun h34=>?_) (fun h34=>?_)
      ·replace h34:=bT h34
       refine pA_ 24 ?_
       have hsp:¬spanF x.cls=0:=by omega
       intro w' hw;exact⟨by unfold mayF;rw[if_neg hsp,if_neg h17,if_pos h19,decide_eq_false om_];rfl,hw.below⟩
      ·replace h34:=bF h34
       refine Lv (Fa 5 9)<|Lv Ld<|pA_ 5 ?_
       refine Cd_ rfl (fun h39=>?_) fun h39=>?_
       ·refine pA_ 16 ?_
        have hsp:¬spanF x.cls=0:=by omega
        intro w' hw;exact⟨by unfold mayF;rw[if_neg hsp,if_neg h17,if_pos h19,decide_eq_false om_];rfl,hw.below⟩
       ·refine pA_ 5 ?_
        refine Lv Ld<|Lv LnS<|Lv Ar<|LW.re 44 (.int .i64 (x.val.length:Nat)) rfl (by congr 1;omega)<|pA_ 3 ?_
        exact joinC (x.val.length) (⟨by omega,.inl ⟨by omega,by omega,by omega,rfl⟩⟩)
     ·refine pA_ 9 ?_
      refine Cd_ rfl (fun h21=>?_) fun h21=>?_
      ·refine pA_ 8 ?_
       exact joinC (x.key.length+x.val.length) (⟨by omega,.inr ⟨by omega,rfl⟩⟩)
      ·refine pA_ 8 ?_
       refine Cd_ rfl (fun h23=>?_) fun h23=>?_
       ·refine pA_ 16 ?_
        refine LW.split (d:=70) rfl (fun h70=>?_) (fun h70=>?_)
        ·replace h70:=bT h70
         refine pA_ 19 ?_
         have hsp:¬spanF x.cls=0:=by omega
         have k9:¬(x.key=[]∧x.val=[]∧x.cls=0):=by
          rintro⟨a1,a2,a3⟩
          have e1:x.key.length=0:=by rw[a1];rfl
          have e2:x.val.length=0:=by rw[a2];rfl
          omega
         intro w' hw;exact⟨by unfold mayF;rw[if_neg hsp,if_neg h17,if_neg h19,if_neg h21,if_pos h23,decide_eq_false k9];rfl,hw.below⟩
        ·replace h70:=bF h70
         refine Lv (Fa 0 3)<|Lv Ld<|pA_ 4 ?_
         refine Cd_ rfl (fun h74=>?_) fun h74=>?_
         ·refine pA_ 12 ?_
          have hsp:¬spanF x.cls=0:=by omega
          have k9:¬(x.key=[]∧x.val=[]∧x.cls=0):=by
           rintro⟨a1,a2,a3⟩
           have e1:x.key.length=0:=by rw[a1];rfl
           have e2:x.val.length=0:=by rw[a2];rfl
           omega
          intro w' hw;exact⟨by unfold mayF;rw[if_neg hsp,if_neg h17,if_neg h19,if_neg h21,if_pos h23,decide_eq_false k9];rfl,hw.below⟩
         ·refine pA_ 6 ?_
          exact joinC (()) ((by unfold mayF;rw[if_neg om_,if_neg h17,if_neg h19,if_neg h21,if_pos h23,decide_eq_true ⟨List.length_eq_zero_iff.1 om_,List.length_eq_zero_iff.1 om_,by omega⟩];rfl))
       ·refine pA_ 24 ?_
        have hsp:¬spanF x.cls=0:=by omega
        intro w' hw;exact⟨by unfold mayF;rw[if_neg hsp,if_neg h17,if_neg h19,if_neg h21,if_neg h23];rfl,hw.below⟩
   ·rintro n ⟨hsp,hn⟩
    refine pA_ 3 ?_
    refine Qt<|Qv (Fa 1 3)<|Qv Ld<|Qv Cm<|Qv Mv ?_
    refine QW.split (d:=48) rfl (fun h48=>?_) (fun h48=>?_)
    ·replace h48:=bT h48
     refine Qv (Fa 5 9)<|Qv Ld<|Qv NS<|Qv Pt<|Qv Mv ?_
     refine QW.split (d:=53) rfl (fun h53=>?_) (fun h53=>?_)
     ·replace h53:=bT h53
      refine pA_ 31 ?_
      have e8:mayF x=false:=by rw[may_pre hsp hn,decide_eq_false (by rintro⟨a1,a2,a3⟩;first|omega|exact a1 ⟨h48,h53⟩),Bool.false_and]
      intro w' hw;exact⟨by rw[e8],hw.below⟩
     ·replace h53:=bF h53
      refine pA_ 4 ?_
      refine QW.split (d:=57) rfl (fun h57=>?_) (fun h57=>?_)
      ·replace h57:=bT h57
       refine pA_ 27 ?_
       have e8:mayF x=false:=by rw[may_pre hsp hn,decide_eq_false (by rintro⟨a1,a2,a3⟩;first|omega|exact a1 ⟨h48,h53⟩),Bool.false_and]
       intro w' hw;exact⟨by rw[e8],hw.below⟩
      ·replace h57:=bF h57
       refine Qv (Fa 5 9)<|Qv Ld<|Qv LnS<|Qv Mv<|Qv Ar<|Qc (Qz_ (need_c _))<|Qv (Fa 0 3)<|Qv Ld<|pA_ 4 ?_
       refine Cd_ rfl (fun h67=>?_) fun h67=>?_
       ·refine pA_ 14 ?_
        have e8:mayF x=false:=by rw[may_pre hsp hn,decide_eq_false (by rintro⟨a1,a2,a3⟩;first|omega|exact a1 ⟨h48,h53⟩),Bool.false_and]
        intro w' hw;exact⟨by rw[e8],hw.below⟩
       ·refine pA_ 8 ?_
        exact joinC (()) ((by rw[may_pre hsp hn,decide_eq_true ⟨by rintro⟨a1,a2⟩;first|omega|exact a2 h53,by omega,h67⟩,Bool.true_and]))
    ·replace h48:=bF h48
     refine pA_ 9 ?_
     refine QW.split (d:=57) rfl (fun h57=>?_) (fun h57=>?_)
     ·replace h57:=bT h57
      refine pA_ 27 ?_
      have e8:mayF x=false:=by rw[may_pre hsp hn,decide_eq_false (by rintro⟨a1,a2,a3⟩;first|omega|exact a1 ⟨h48,h53⟩),Bool.false_and]
      intro w' hw;exact⟨by rw[e8],hw.below⟩
     ·replace h57:=bF h57
      refine Qv (Fa 5 9)<|Qv Ld<|Qv LnS<|Qv Mv<|Qv Ar<|Qc (Qz_ (need_c _))<|Qv (Fa 0 3)<|Qv Ld<|pA_ 4 ?_
      refine Cd_ rfl (fun h67=>?_) fun h67=>?_
      ·refine pA_ 14 ?_
       have e8:mayF x=false:=by rw[may_pre hsp hn,decide_eq_false (by rintro⟨a1,a2,a3⟩;first|omega|exact a1 ⟨h48,h53⟩),Bool.false_and]
       intro w' hw;exact⟨by rw[e8],hw.below⟩
      ·refine pA_ 8 ?_
       exact joinC (()) ((by rw[may_pre hsp hn,decide_eq_true ⟨by rintro⟨a1,a2⟩;first|omega|exact a2 h53,by omega,h67⟩,Bool.true_and]))
  ·intro _ hm
   refine pA_ 4 ?_
   refine Lv Ld<|Le (Cz_ (number_c _)) fun _ _=>Lv Mv ?_
   refine LW.split (d:=78) rfl (fun h78=>?_) (fun h78=>?_)
   ·replace h78:=bT h78
    refine Lv (Fa 3 48)<|Lv Ld<|Le (Cz_ (number_c _)) fun _ _=>Lv Pt<|Lv Mv ?_
    refine LW.split (d:=83) rfl (fun h83=>?_) (fun h83=>?_)
    ·replace h83:=bT h83
     refine Lv (Fa 4 48)<|Lv Ld<|Le (Cz_ (number_c _)) fun _ _=>pA_ 6 ?_
     intro w' hw;exact⟨by rw[hm];simp_all,hw.below⟩
    ·replace h83:=bF h83
     refine pA_ 9 ?_
     intro w' hw;exact⟨by rw[hm];simp_all,hw.below⟩
   ·replace h78:=bF h78
    refine pA_ 14 ?_
    intro w' hw;exact⟨by rw[hm];simp_all,hw.below⟩
def headF (l:List UInt8):Option (Nat×Nat):=if l.length=64∧l[0]? =some 1∧spanF ((l[1]?.getD 0).toNat:Nat)≠0∧(l[2]?.getD 0).toNat≤3 then some ((l[1]?.getD 0).toNat,(l[2]?.getD 0).toNat) else none
def headV (o:Option (Nat×Nat)):Value:=match o with
 |none=> .tuple #[.int .i64 0,.int .i64 0,.bool false]
 |some (c,k)=> .tuple #[.int .i64 (c:Nat),.int .i64 (k:Nat),.bool true]
end
section
attribute [local irreducible] V.CW V.LW V.QW V.RW V.PQ V.Val V.Eff V.Qcall
open V (str byC ownV ownG ownS ownOk)
instance:Cal Tryz.prog 183:=⟨Tryz.call183⟩
def headPre (x:Blk):List UInt8:=((((List.replicate 64 0).set 0 1).set 1 (byteF x.cls)).set 2 (byteF x.kind)).set 3 (byteF x.key.length)
def headA (x:Blk):List UInt8:=putL (headPre x) 4 2 (IntKind.u64.wrap (x.val.length:Nat))
def headB (x:Blk):List UInt8:=putL (headA x) 8 8 x.id
def headC (x:Blk):List UInt8:=putL (headB x) 16 8 x.ver
def headD (x:Blk):List UInt8:=putL (headC x) 24 8 x.ep
def headE (x:Blk)(dt:List UInt8):List UInt8:=putL (headD x) 32 4 (IntKind.u64.wrap (addF (sumF ((headD x).take 32)) dt))
def headL (x:Blk)(dt:List UInt8):List UInt8:=(headE x dt).take 36++dt.take 28
theorem headPre_len (x:Blk):(headPre x).length=64:=by unfold headPre;simp
theorem headA_len (x:Blk):(headA x).length=64:=by unfold headA;rw[putL_len,headPre_len]
theorem headB_len (x:Blk):(headB x).length=64:=by unfold headB;rw[putL_len,headA_len]
theorem headC_len (x:Blk):(headC x).length=64:=by unfold headC;rw[putL_len,headB_len]
theorem headD_len (x:Blk):(headD x).length=64:=by unfold headD;rw[putL_len,headC_len]
theorem headE_len (x:Blk)(dt:List UInt8):(headE x dt).length=64:=by unfold headE;rw[putL_len,headD_len]
theorem headL_len (x:Blk){dt:List UInt8}(h:28≤dt.length):(headL x dt).length=64:=by unfold headL;rw[List.length_append,List.length_take,List.length_take,headE_len];omega
theorem byC_take (l:List UInt8)(k:Nat):(byC l).take k=byC (l.take k):=by show List.take k (List.map _ l)=List.map _ _;rw[List.map_take]
theorem byC_drop (l:List UInt8)(k:Nat):(byC l).drop k=byC (l.drop k):=by show List.drop k (List.map _ l)=List.map _ _;rw[List.map_drop]
theorem byC_take_at {l:List UInt8}{k j:Nat}{u:Value}(h:(byC (l.take k))[j]? =some u):(byC l)[j]? =some u:=by
 rw[← byC_take,List.getElem?_take] at h
 split at h
 ·exact h
 ·cases h
theorem slAt_take {α:Type}{w:World}{p:Option Addr}{sz:Nat}{enc:α→List Value}{l:List α}(h:V.slAt w p sz enc l)(k:Nat):V.slAt w p sz enc (l.take k):=by
 rcases h with h|⟨b,o,hp,hb,hr⟩
 ·subst h;exact .inl (by simp)
 ·refine .inr ⟨b,o,hp,hb,fun i x hx=>hr i x ?_⟩
  rw[List.getElem?_take] at hx
  split at hx
  ·exact hx
  ·cases hx
theorem bput_c (b T:Nat)(l:List UInt8)(m at_ n:Nat)(v:Int)(hm:l.length=m)(h1:1≤n∧n≤8)(h2:at_+n≤m)(h3:m≤1000):Mo Tryz.prog 183 [.slice (some ⟨b,0,none⟩) m m,.int .i64 (at_:Nat),.int .i64 (n:Nat),.int .u64 v] [[(b,.cells (byC l).toArray T (0,0))]] (fun _u:Unit=>True) (fun _=> .tuple #[]) (fun _=>[[(b,.cells (byC (putL l at_ n v)).toArray T (0,0))]]):=by
 intro w hs
 subst hm
 cases hf:fitB v n with
 |true=>exact put1_c b T l at_ n v hf h1 h2 h3 w hs
 |false=>exact put0_c b T l at_ n v hf h1 h2 h3 w hs
theorem Head_c (l:List UInt8)(p:Option Addr)(cp:Nat)(hl:l.length≤100000)(w:World)(hp:V.slAt w p 1 byE l):Calls Tryz.prog 93 [.slice p l.length cp].toArray w fun e w'=>e= .returned (headV (headF l))∧Below w.heap.size w w':=by
 refine Cb_ Tryz.func93 rfl Tryz.ntmps93<|pA_ 14 ?_
 refine LW.split (d:=8) rfl (fun h8=>?_) (fun h8=>?_)
 ·replace h8:=bT h8
  refine pA_ 31 ?_
  refine Rt3 ?_
  have e8:headF l=none:=by
   unfold headF
   refine if_neg ?_
   rintro⟨a1,a2,a3,a4⟩
   omega
  intro w' hw;exact⟨by rw[e8];rfl,hw.below⟩
 ·replace h8:=bF h8
  have h64:l.length=64:=by omega
  obtain⟨pb,po,u0,rfl,hpb,hu0,hpr⟩:=V.slAt_at hp rfl (k:=0) om_
  obtain⟨u1,hu1⟩:∃u,l[1]? =some u:=⟨l[1]'om_,by simp⟩
  obtain⟨u2,hu2⟩:∃u,l[2]? =some u:=⟨l[2]'om_,by simp⟩
  refine Lv Mv<|Lv (Val.indexAddrN (i:=0) rfl rfl Tryz.underlying133 Tryz.sizeOf5 om_)<|Lv (Val.loadO rfl Tryz.isAgg5 hpb (by simp[ids]) (hpr 0 u0 hu0 0 _ rfl))<|pA_ 3 ?_
  refine LW.split (d:=14) rfl (fun h14=>?_) (fun h14=>?_)
  ·replace h14:=bT h14
   refine pA_ 25 ?_
   refine Rt3 ?_
   have e8:headF l=none:=by
    unfold headF
    refine if_neg ?_
    rintro⟨a1,a2,a3,a4⟩
    rw[hu0,Option.some.injEq] at a2
    rw[hu1,Option.getD_some] at a3
    rw[hu2,Option.getD_some] at a4
    subst a2
    first|omega|(simp at*;done)|(simp at*;omega)
   intro w' hw;exact⟨by rw[e8];rfl,hw.below⟩
  ·replace h14:=bF h14
   refine Lv Mv<|Lv (Val.indexAddrN (i:=1) rfl rfl Tryz.underlying133 Tryz.sizeOf5 om_)<|Lv (Val.loadO rfl Tryz.isAgg5 hpb (by simp[ids]) (hpr 1 u1 hu1 0 _ rfl))<|Lv Cv<|LW.re 18 (.int .i64 (u1.toNat:Nat)) rfl (by congr 1;exact IntWalk.i64_in _ (by have:=u1.toNat_lt;omega))<|Le (Cz_ (span_c (u1.toNat:Nat))) fun _ _=>pA_ 3 ?_
   refine LW.split (d:=22) rfl (fun h22=>?_) (fun h22=>?_)
   ·replace h22:=bT h22
    refine pA_ 17 ?_
    refine Rt3 ?_
    have e8:headF l=none:=by
     unfold headF
     refine if_neg ?_
     rintro⟨a1,a2,a3,a4⟩
     rw[hu0,Option.some.injEq] at a2
     rw[hu1,Option.getD_some] at a3
     rw[hu2,Option.getD_some] at a4
     subst a2
     first|omega|(simp at*;done)|(simp at*;omega)
    intro w' hw;exact⟨by rw[e8];rfl,hw.below⟩
   ·replace h22:=bF h22
    refine Lv Mv<|Lv (Val.indexAddrN (i:=2) rfl rfl Tryz.underlying133 Tryz.sizeOf5 om_)<|Lv (Val.loadO rfl Tryz.isAgg5 hpb (by simp[ids]) (hpr 2 u2 hu2 0 _ rfl))<|pA_ 4 ?_
    refine Cd_ rfl (fun h27=>?_) fun h27=>?_
    ·refine pA_ 9 ?_
     refine Rt3 ?_
     have e8:headF l=none:=by
      unfold headF
      refine if_neg ?_
      rintro⟨a1,a2,a3,a4⟩
      rw[hu0,Option.some.injEq] at a2
      rw[hu1,Option.getD_some] at a3
      rw[hu2,Option.getD_some] at a4
      subst a2
      first|omega|(simp at*;done)|(simp at*;omega)
     intro w' hw;exact⟨by rw[e8];rfl,hw.below⟩
    ·refine pA_ 3 ?_
     refine Qt<|Qv Mv<|Qv (Val.indexAddrN (i:=1) rfl rfl Tryz.underlying133 Tryz.sizeOf5 om_)<|Qv (Val.loadO rfl Tryz.isAgg5 hpb (by simp[ids]) (hpr 1 u1 hu1 0 _ rfl))<|Qv Cv<|QW.re 31 (.int .i64 (u1.toNat:Nat)) rfl (by congr 1;exact IntWalk.i64_in _ (by have:=u1.toNat_lt;omega))<|Qv Mv<|Qv (Val.indexAddrN (i:=2) rfl rfl Tryz.underlying133 Tryz.sizeOf5 om_)<|Qv (Val.loadO rfl Tryz.isAgg5 hpb (by simp[ids]) (hpr 2 u2 hu2 0 _ rfl))<|Qv Cv<|QW.re 35 (.int .i64 (u2.toNat:Nat)) rfl (by congr 1;exact IntWalk.i64_in _ (by have:=u2.toNat_lt;omega))<|pA_ 6 ?_
     refine Rt3 ?_
     have e8:headF l=some (u1.toNat,u2.toNat):=by
      unfold headF
      rw[hu1,hu2,hu0,if_pos ⟨by omega,by rw[show u0=1 from UInt8.toNat_inj.1 (show u0.toNat=1 by omega)],by simp only[Option.getD_some];omega,by simp only[Option.getD_some];omega⟩];rfl
     intro w' hw;exact⟨by rw[e8];rfl,hw.below⟩
theorem head_c (x:Blk)(dt:List UInt8)(p:Option Addr)(cp:Nat)(hd:28≤dt.length∧dt.length≤1000)(hk:x.key.length≤100000∧x.val.length≤100000)(w:World)(hp:V.slAt w p 1 byE dt):Calls Tryz.prog 140 [.agg (blC x).toArray,.slice p dt.length cp].toArray w fun e w'=>∃b:Nat,True∧e= .returned (.slice (some ⟨b,0,none⟩) 64 64)∧Hp ⟨w,[]⟩ ([[(b,.cells (byC (headL x dt)).toArray 5 (0,0))]]) w':=by
 obtain⟨pb,po,u0,rfl,hpb,hu0,hpr⟩:=V.slAt_at hp rfl (k:=0) om_
 have hsrc:=range_flat byE_len hpr
 refine Cb_ Tryz.func140 rfl Tryz.ntmps140<|Sq<|Rg<|Le XA fun b2 _=>pA_ 5 ?_
 refine Le (Eff.makeSlice (m:=64) (by_:=1) (zl:=[.int .u8 0]) rfl rfl Tryz.underlying133 kr_ Tryz.sizeOf5 (by exact Tryz.zeroValue5) kr_ rfl om_ om_ om_) fun b6 _=>?_
 rw[zeros_byC]
 refine pA_ 4 ?_
 refine Dr ([[(b2,.cells (blC x).toArray 144 (0,0))]])<|pR_ [0,1,2,3,4] ?_
 refine Rv 5 rfl Ld<|Rv 6 rfl Cv<|RW.re 13 (.int .u8 ((byteF x.cls).toNat:Nat)) rfl (byteF_eq _)<|Rv 7 rfl (Fa 1 3)<|Rv 8 rfl Ld<|Rv 9 rfl Cv<|RW.re 16 (.int .u8 ((byteF x.kind).toNat:Nat)) rfl (byteF_eq _)<|Rv 10 rfl (Fa 5 9)<|Rv 11 rfl Ld<|Rv 12 rfl LnS<|Rv 13 rfl Cv<|RW.re 20 (.int .u8 ((byteF x.key.length).toNat:Nat)) rfl (byteF_eq _)<|Rv 14 rfl (Val.indexAddrN (i:=0) rfl rfl Tryz.underlying133 Tryz.sizeOf5 om_)<|ReN 15 rfl (Eff.storeX (l:=byC (List.replicate 64 0)) (l':=byC ((List.replicate 64 0).set (0) (1))) rfl rfl rfl up_ (by have h8:=set_byC (List.replicate 64 0) (0) (1);simpa using h8) (by simp only[V.byC_len,List.length_replicate];omega) Tryz.sizeOf5) fun _ _=>Rv 16 rfl (Val.indexAddrN (i:=1) rfl rfl Tryz.underlying133 Tryz.sizeOf5 om_)<|ReN 17 rfl (Eff.storeX (l:=byC ((List.replicate 64 0).set 0 1)) (l':=byC (((List.replicate 64 0).set 0 1).set (1) (byteF x.cls))) rfl rfl rfl up_ (by have h8:=set_byC ((List.replicate 64 0).set 0 1) (1) (byteF x.cls);simpa using h8) (by simp only[V.byC_len,List.length_set,List.length_replicate];omega) Tryz.sizeOf5) fun _ _=>Rv 18 rfl (Val.indexAddrN (i:=2) rfl rfl Tryz.underlying133 Tryz.sizeOf5 om_)<|ReN 19 rfl (Eff.storeX (l:=byC (((List.replicate 64 0).set 0 1).set 1 (byteF x.cls))) (l':=byC ((((List.replicate 64 0).set 0 1).set 1 (byteF x.cls)).set (2) (byteF x.kind))) rfl rfl rfl up_ (by have h8:=set_byC (((List.replicate 64 0).set 0 1).set 1 (byteF x.cls)) (2) (byteF x.kind);simpa using h8) (by simp only[V.byC_len,List.length_set,List.length_replicate];omega) Tryz.sizeOf5) ?_
 intro _ _
 refine Rv 20 rfl (Val.indexAddrN (i:=3) rfl rfl Tryz.underlying133 Tryz.sizeOf5 om_)<|ReN 21 rfl (Eff.storeX (l:=byC ((((List.replicate 64 0).set 0 1).set 1 (byteF x.cls)).set 2 (byteF x.kind))) (l':=byC (((((List.replicate 64 0).set 0 1).set 1 (byteF x.cls)).set 2 (byteF x.kind)).set (3) (byteF x.key.length))) rfl rfl rfl up_ (by have h8:=set_byC ((((List.replicate 64 0).set 0 1).set 1 (byteF x.cls)).set 2 (byteF x.kind)) (3) (byteF x.key.length);simpa using h8) (by simp only[V.byC_len,List.length_set,List.length_replicate];omega) Tryz.sizeOf5) fun _ _=>pA_ 6 ?_
 refine Lv Ld<|Lv LnS<|Lv Cv<|Le (Cm_ (bput_c b6 5 (headPre x) 64 4 2 (IntKind.u64.wrap (x.val.length:Nat)) (headPre_len x) om_ om_ om_)) fun _ _=>pA_ 6 ?_
 refine Lv Ld<|Le (Cm_ (bput_c b6 5 (headA x) 64 8 8 (x.id) (headA_len x) om_ om_ om_)) fun _ _=>pA_ 6 ?_
 refine Lv Ld<|Le (Cm_ (bput_c b6 5 (headB x) 64 16 8 (x.ver) (headB_len x) om_ om_ om_)) fun _ _=>pA_ 6 ?_
 refine Lv Ld<|Le (Cm_ (bput_c b6 5 (headC x) 64 24 8 (x.ep) (headC_len x) om_ om_ om_)) fun _ _=>pA_ 6 ?_
 refine Lv (Val.slice (0) (32) (64) rfl Tryz.underlying133 Tryz.sizeOf5 rfl ⟨_,rfl⟩ rfl (fun _=>rfl) om_ om_ om_)<|LW.re 45 (.slice (some ⟨b6,0,none⟩) ((headD x).take 32).length 64) rfl (by rw[List.length_take,headD_len];rfl)<|Le (CV fun w hw=>sum_c ((headD x).take 32) _ 64 (by rw[List.length_take];omega) w (slAt_take (byE_of hw.at) 32)) ?_
 intro _ _
 refine Lv Mv<|Le (CV fun w hw=>add_c _ dt _ cp om_ w (hw.slAt hp (by simp[ids]))) fun _ _=>Lv Cv<|Le (Cm_ (bput_c b6 5 (headD x) 64 32 4 (IntKind.u64.wrap (addF (sumF ((headD x).take 32)) dt)) (headD_len x) om_ om_ om_)) fun _ _=>pA_ 5 ?_
 refine Lv (Val.slice (36) (64) (64) rfl Tryz.underlying133 Tryz.sizeOf5 ⟨_,rfl⟩ rfl rfl (fun _=>rfl) om_ om_ om_)<|LW.re 52 (.slice (some ⟨b6,36,none⟩) 28 28) rfl (by rfl)<|Lv Mv<|Le (Eff.copyT (cs:=byC (dt.take 28)) (gb:=b6) (cur:=byC (headE x dt)) (cells':=byC (headL x dt)) (m:=28) (sz:=1) rfl rfl Tryz.underlying133 kr_ up_ (by unfold headL;rw[V.byC_append,V.byC_len,List.length_take,List.drop_eq_nil_iff.2 (by rw[V.byC_len,headE_len];omega),List.append_nil,byC_take]) (by have:=hd.1;show min _ _=_;omega) (by rw[V.byC_len,List.length_take];omega) (fun w1 hw1 j u hj=>by rw[Addr.add_mid];exact(hw1.range hsrc hpb (by simp[ids])) j u (by rw[← byC_flat];exact byC_take_at hj)) (by rw[V.byC_len,V.byC_len,List.length_take,headE_len];omega) (V.byC_one _)) fun _ _=>pA_ 10 ?_
 intro w' hw;exact⟨b6,trivial,rfl,by unfold headL;exact hw.pick pk_⟩
end
section
attribute [local irreducible] V.CW V.LW V.QW V.RW V.PQ V.Val V.Eff V.Qcall
open V (str byC ownV ownG ownS ownOk)
instance:Cal Tryz.prog 140:=⟨Tryz.call140⟩
def capN (c:Int):Nat:=(capF c).toNat
theorem capN_eq (c:Int):capF c=(capN c:Nat):=by unfold capN;rcases cap_cases c with⟨_,h⟩|⟨_,h⟩|⟨_,h⟩|⟨_,h⟩|⟨_,h⟩<;>rw[h]<;>rfl
theorem capN_span {c:Int}(h:spanF c≠0):capN c=28+63*(spanF c-1)∧1≤spanF c∧spanF c≤8:=by
 unfold capN capF
 rcases spanF_cases c with⟨a,e⟩|⟨a,e⟩|⟨a,e⟩|⟨a,e⟩|⟨a,e⟩<;>rw[e] at h⊢ <;>first|(exact absurd rfl h)|decide
def dataB (x:Blk):List UInt8:=(x.key++x.val)++List.replicate (capN x.cls-(x.key.length+x.val.length)) 0
theorem may_span {x:Blk}(h:mayF x=true):spanF x.cls≠0:=by
 intro e;unfold mayF at h;rw[if_pos e] at h;cases h
theorem need_cap {n c:Int}(h:needF n=c)(h0:0≤n)(hc:spanF c≠0):n≤capF c:=by
 subst h
 unfold needF at hc⊢
 rw[if_neg om_] at hc⊢
 by_cases h1:n≤28
 ·rw[if_pos h1];exact h1
 ·rw[if_neg h1] at hc⊢
  by_cases h2:n≤91
  ·rw[if_pos h2];exact h2
  ·rw[if_neg h2] at hc⊢
   by_cases h3:n≤217
   ·rw[if_pos h3];exact h3
   ·rw[if_neg h3] at hc⊢
    by_cases h4:n≤469
    ·rw[if_pos h4];exact h4
    ·rw[if_neg h4] at hc;exact absurd rfl hc
theorem may_cap {x:Blk}(h:mayF x=true):x.key.length+x.val.length≤capN x.cls:=by
 have hs:=may_span h
 have hc:=capN_eq x.cls
 have h28:=(capN_span hs).1
 unfold mayF at h
 rw[if_neg hs] at h
 by_cases k0:x.kind=0
 ·rw[if_pos k0] at h;simp only[decide_eq_true_eq] at h;rw[h.2.2.2.1,h.2.2.2.2];simp
 ·rw[if_neg k0,Bool.and_eq_true] at h
  have h:=h.1
  by_cases k1:x.kind=1
  ·rw[if_pos k1] at h;simp only[decide_eq_true_eq] at h
   have:=need_cap h.2.2.2 om_ hs
   omega
  ·rw[if_neg k1] at h
   by_cases k2:x.kind=2
   ·rw[if_pos k2] at h;simp only[decide_eq_true_eq] at h
    have:=need_cap h.2.2 om_ hs
    rw[h.1];simp only[List.length_nil];omega
   ·rw[if_neg k2] at h
    by_cases k3:x.kind=3
    ·rw[if_pos k3] at h;simp only[decide_eq_true_eq] at h;rw[h.1,h.2.1];simp
    ·rw[if_neg k3] at h;cases h
theorem dataB_len {x:Blk}(h:mayF x=true):(dataB x).length=capN x.cls:=by
 have:=may_cap h
 unfold dataB;simp only[List.length_append,List.length_replicate];omega
theorem data_copy (x:Blk)(h:x.key.length+x.val.length≤capN x.cls):(byC (List.replicate (capN x.cls) 0)).take 0++byC ((x.key++x.val).take (x.key.length+x.val.length))++(byC (List.replicate (capN x.cls) 0)).drop (0+(x.key.length+x.val.length))=byC (dataB x):=by
 have e1:(x.key++x.val).take (x.key.length+x.val.length)=x.key++x.val:=List.take_of_length_le (by simp)
 rw[e1,List.take_zero,List.nil_append,byC_drop,List.drop_replicate,Nat.zero_add,← V.byC_append]
 rfl
theorem chunk_copy {c:List UInt8}(h:c.length=63):(byC ((List.replicate 64 0).set 0 2)).take 1++byC c++(byC ((List.replicate 64 0).set 0 2)).drop (1+(byC c).length)=byC (2::c):=by
 rw[V.byC_len,h,List.drop_eq_nil_iff.2 (by rw[V.byC_len];simp),List.append_nil]
 rfl
def tailL (dt:List UInt8)(k:Nat):List UInt8:=(List.range k).flatMap fun i=>2::(dt.drop (28+63*i)).take 63
theorem tailL_succ (dt:List UInt8)(k:Nat):tailL dt (k+1)=tailL dt k++(2::(dt.drop (28+63*k)).take 63):=by unfold tailL;rw[List.range_succ,List.flatMap_append];simp
theorem tailL_len (dt:List UInt8):∀k,28+63*k≤dt.length→(tailL dt k).length=64*k
 |0,_=>rfl
 |k+1,h=>by
  rw[tailL_succ,List.length_append,tailL_len dt k om_,List.length_cons,List.length_take,List.length_drop];omega
theorem out0 {x:Blk}{dt:List UInt8}(b:Nat)(h:28≤dt.length):ownOk 1 (64+64*0) (byC (headL x dt++tailL dt 0)) (some (b,[],64)):=by
 have e:(byC (headL x dt++tailL dt 0)).length=64:=by rw[V.byC_len,List.length_append,headL_len x h];rfl
 exact⟨by rw[e],by rw[e];rfl⟩
def encL (x:Blk):List UInt8:=headL x (dataB x)++tailL (dataB x) (spanF x.cls-1)
theorem encL_len {x:Blk}(h:mayF x=true):(encL x).length=64*spanF x.cls:=by
 have h1:=dataB_len h
 have h2:=capN_span (may_span h)
 unfold encL
 rw[List.length_append,headL_len _ om_,tailL_len _ _ om_]
 omega
def encR (x:Blk):List UInt8:=if mayF x=true then encL x else[]
theorem encode_c (x:Blk)(hl:x.key.length≤100000∧x.val.length≤100000):Mz Tryz.prog 97 [.agg (blC x).toArray] (fun o:V.OwnO=>ownOk 1 (encR x).length (byC (encR x)) o) (fun o=> .tuple #[ownV (encR x).length o,.int .i64 (if mayF x=true then 0 else 3)]) (fun o=>[ownG 5 (byC (encR x)) o]):=by
 intro w
 refine Cb_ Tryz.func97 rfl Tryz.ntmps97<|Sq<|Rg<|Le XA fun b1 _=>pA_ 7 ?_
 refine Lv Lw<|Le (Cz_ (may_c x hl)) fun _ _=>pA_ 3 ?_
 refine Cd_ rfl (fun h10=>?_) fun h10=>?_
 ·have hm:¬mayF x=true:=by simp[h10]
  refine pA_ 9 ?_
  intro w' hw;exact⟨none,by unfold encR;rw[if_neg hm];exact⟨rfl,rfl⟩,by unfold encR;rw[if_neg hm,if_neg hm];rfl,by unfold encR;rw[if_neg hm];exact(hw.pick (ss:=[]) .nil).perm (.refl _)⟩
 ·have hm:mayF x=true:=by simpa using h10
  have hcl:=may_cap hm
  have hsp:=capN_span (may_span hm)
  have hdl:=dataB_len hm
  refine pA_ 5 ?_
  refine Lv Ld<|Le (Cz_ (cap_c x.cls)) fun _ _=>LW.re 13 (.int .i64 (capN x.cls:Nat)) rfl (by rw[capN_eq])<|Le (Eff.makeSlice (m:=capN x.cls) (by_:=1) (zl:=[.int .u8 0]) rfl rfl Tryz.underlying133 kr_ Tryz.sizeOf5 (by exact Tryz.zeroValue5) kr_ rfl om_ om_ om_) fun b14 _=>?_
  rw[zeros_byC]
  refine pA_ 7 ?_
  refine Lv Ld<|Lv (Fa 6 9)<|Lv Ld<|Lv (Val.catStr rfl rfl (by first|omega|(simp only[List.length_append,List.length_cons,List.length_nil];omega)))<|Le (Eff.copyStr (sz:=1) (T:=5) (gb:=b14) (cur:=byC (List.replicate (capN x.cls) 0)) (cells':=byC (dataB x)) (m:=x.key.length+x.val.length) rfl rfl Tryz.underlying133 kr_ up_ (data_copy x hcl) (by rw[List.length_append];exact Nat.min_eq_left hcl) (by rw[V.byC_len,List.length_replicate];omega)) fun _ _=>pA_ 4 ?_
  refine Lv Lw<|Lv Mv<|LW.re 23 (.slice (some ⟨b14,0,none⟩) (dataB x).length (capN x.cls)) rfl (by rw[hdl])<|Le (CM [] fun w hw hs=>head_c x (dataB x) _ (capN x.cls) om_ hl w (by rw[hdl] at*;exact byE_of hw.at)) fun b _=>pA_ 6 ?_
  refine Lv (Val.slice (28) (capN x.cls) (capN x.cls) rfl Tryz.underlying133 Tryz.sizeOf5 ⟨_,rfl⟩ rfl rfl (fun _=>rfl) om_ om_ om_)<|LW.re 26 (.slice (some ⟨b14,(if capN x.cls=28 then 0 else 0+28*1),none⟩) (capN x.cls-28-63*0) (capN x.cls-28-63*0)) rfl (by simp)<|pA_ 7 ?_
  refine Lv Ld<|Le (Cz_ (span_c x.cls)) fun _ _=>Lv Ar<|LW.re 30 (.int .i64 ((spanF x.cls-1:Nat):Nat)) rfl (by congr 1;omega)<|pA_ 4 ?_
  refine V.CW.perm (sg':=[ownG 5 (byC (headL x (dataB x)++tailL (dataB x) 0)) (some (b,[],64)),[(b14,.cells (byC (dataB x)).toArray 5 (0,0))],[(b1,.cells (blC x).toArray 144 (0,0))]]) ?_ (by rw[V.ownG_some];simp[tailL])
  refine loopA (γ:=Nat×Nat×V.OwnO) (fun k=>[(1,.pointer (some ⟨b1,0,none⟩)),(4,.slice (some ⟨b14,k.2.1,none⟩) (capN x.cls-28-63*k.1) (capN x.cls-28-63*k.1)),(5,ownV (64+64*k.1) k.2.2),(30,.int .i64 ((spanF x.cls-1:Nat):Nat)),(31,.int .i64 (k.1:Nat))]) (fun k=>[[(b14,.cells (byC (dataB x)).toArray 5 (0,0))],ownG 5 (byC (headL x (dataB x)++tailL (dataB x) k.1)) k.2.2]) (fun k=>k.1≤spanF x.cls-1∧(k.1<spanF x.cls-1→k.2.1=28+63*k.1)∧ownOk 1 (64+64*k.1) (byC (headL x (dataB x)++tailL (dataB x) k.1)) k.2.2) (fun k=>spanF x.cls-1-k.1) ((0,(if capN x.cls=28 then 0 else 0+28*1),some (b,[],64))) ⟨by omega,fun h=>by show(if capN x.cls=28 then 0 else 0+28*1)=28+63*0;rw[if_neg (by simp only at h;omega)],out0 b om_⟩ fun k=>?_
  rintro⟨hk1,hk2,hk3⟩
  refine pA_ 6 ?_
  refine Cd_ rfl (fun h32=>?_) fun h32=>?_
  ·refine pA_ 6 ?_
   refine Le (Eff.makeSlice (m:=64) (by_:=1) (zl:=[.int .u8 0]) rfl rfl Tryz.underlying133 kr_ Tryz.sizeOf5 (by exact Tryz.zeroValue5) kr_ rfl om_ om_ om_) fun b33 _=>?_
   rw[zeros_byC]
   refine pA_ 6 ?_
   refine Lv (Val.indexAddrN (i:=0) rfl rfl Tryz.underlying133 Tryz.sizeOf5 om_)<|LeN (Eff.storeX (l:=byC (List.replicate 64 0)) (l':=byC ((List.replicate 64 0).set (0) (2))) rfl rfl rfl up_ (by have h8:=set_byC (List.replicate 64 0) (0) (2);simpa using h8) (by simp only[V.byC_len,List.length_replicate];omega) Tryz.sizeOf5) fun _ _=>pA_ 5 ?_
   refine Lv (Val.slice (1) (64) (64) rfl Tryz.underlying133 Tryz.sizeOf5 ⟨_,rfl⟩ rfl rfl (fun _=>rfl) om_ om_ om_)<|LW.re 37 (.slice (some ⟨b33,1,none⟩) 63 63) rfl (by rfl)<|Lv Mv<|Le (Eff.copyT (cs:=byC (((dataB x).drop (28+63*k.1)).take 63)) (gb:=b33) (cur:=byC ((List.replicate 64 0).set 0 2)) (cells':=byC (2::((dataB x).drop (28+63*k.1)).take 63)) (m:=63) (sz:=1) rfl rfl Tryz.underlying133 kr_ up_ (chunk_copy (by rw[List.length_take,List.length_drop];omega)) (by show min _ _=_;omega) (by rw[V.byC_len,List.length_take,List.length_drop];omega) (fun w1 hw1 j u hj=>by rw[Addr.add_mid];exact V.range_of_block (o:=k.2.1) (r:=byC (((dataB x).drop (28+63*k.1)).drop 63)) (hw1.at (b:=b14)) (by rw[hk2 om_,byC_drop,← V.byC_append,List.take_append_drop]) j u hj) (by rw[V.byC_len,V.byC_len,List.length_take,List.length_drop];simp;omega) (V.byC_one _)) fun _ _=>pA_ 7 ?_
   refine Lv (Val.slice (63) (capN x.cls-28-63*k.1) (capN x.cls-28-63*k.1) rfl Tryz.underlying133 Tryz.sizeOf5 ⟨_,rfl⟩ rfl rfl (fun _=>rfl) om_ om_ om_)<|LW.re 42 (.slice (some ⟨b14,(if capN x.cls-28-63*k.1=63 then k.2.1 else k.2.1+63*1),none⟩) (capN x.cls-28-63*(k.1+1)) (capN x.cls-28-63*(k.1+1))) rfl (by congr 1<;>omega)<|pA_ 6 ?_
   refine Le (Eff.appendAny (byC (2::((dataB x).drop (28+63*k.1)).take 63)) (sz:=1) (bytes:=1) (z:= .int .u8 0) (xs:=byC ((headL x (dataB x)++tailL (dataB x) k.1))) (m0:=64+64*k.1) (o:=k.2.2) (m:=64) (pk:=[ownG 5 (byC ((headL x (dataB x)++tailL (dataB x) k.1))) (k.2.2)]) rfl rfl Tryz.underlying133 kr_ rfl om_ pk_ (by simp) hk3 (by rw[V.byC_len,List.length_cons,List.length_take,List.length_drop];omega) (fun hm0=>⟨b33,0,rfl,fun w hw=>V.range_of_block (o:=0) (r:=[]) (hw.at (b:=b33)) (by simp)⟩) (V.byC_one _) om_ om_) ?_
   intro o ho
   refine pA_ 8 ?_
   rw[← V.byC_append,List.append_assoc,← tailL_succ]
   exact roundA ((k.1+1,(if capN x.cls-28-63*k.1=63 then k.2.1 else k.2.1+63*1),o)) ⟨by omega,fun h=>by show(if _ then _ else _)=_;rw[if_neg om_,hk2 om_];omega,by rw[tailL_succ,← List.append_assoc,V.byC_append];exact ho⟩ (by simp only;omega)
  ·refine pA_ 14 ?_
   have hk9:k.1=spanF x.cls-1:=by omega
   have e9:encR x=headL x (dataB x)++tailL (dataB x) k.1:=by unfold encR encL;rw[if_pos hm,hk9]
   have e8:(encR x).length=64+64*k.1:=by unfold encR;rw[if_pos hm,encL_len hm];omega
   intro w' hw;exact⟨k.2.2,by rw[e8,e9];exact hk3,by rw[e8,if_pos hm],by rw[e9];exact hw.pick pk_⟩
end
section
attribute [local irreducible] V.CW V.LW V.QW V.RW V.PQ V.Val V.Eff V.Qcall
open V (str byC ownV ownG ownS ownOk)
def dataTo (b:List UInt8)(k:Nat):List UInt8:=(b.drop 36).take 28++(List.range k).flatMap fun i=>(b.drop (64*(i+1)+1)).take 63
def dataL (b:List UInt8):List UInt8:=dataTo b (b.length/64-1)
theorem dataTo_succ (b:List UInt8)(k:Nat):dataTo b (k+1)=dataTo b k++(b.drop (64*(k+1)+1)).take 63:=by unfold dataTo;rw[List.range_succ,List.flatMap_append];simp
theorem dataTo_len (b:List UInt8):∀k,64*(k+1)≤b.length→(dataTo b k).length=28+63*k
 |0,h=>by unfold dataTo;simp;omega
 |k+1,h=>by rw[dataTo_succ,List.length_append,dataTo_len b k om_,List.length_take,List.length_drop];omega
theorem sub_slice {b:List UInt8}{a n:Nat}:∃r,(b.flatMap byE).drop a=byC ((b.drop a).take n)++r:=⟨byC ((b.drop a).drop n),by rw[← byC_flat,byC_drop,← V.byC_append,List.take_append_drop]⟩
theorem data_c (b:List UInt8)(s:Nat)(p:Option Addr)(cp:Nat)(hs8:b.length=64*s∧1≤s∧s≤100)(hc:b.length≤cp)(w:World)(hp:V.slAt w p 1 byE b):Calls Tryz.prog 96 [.slice p b.length cp].toArray w fun e w'=>e= .returned (str (dataL b))∧Below w.heap.size w w':=by
 obtain⟨pb,po,u0,rfl,hpb,hu0,hpr⟩:=V.slAt_at hp rfl (k:=0) om_
 have hsrc:=range_flat byE_len hpr
 refine Cb_ Tryz.func96 rfl Tryz.ntmps96<|pA_ 7 ?_
 refine Le (Eff.buildSlice0 Tryz.underlying133 Tryz.sizeOf5) fun b5 _=>Lv Mv<|Lv (Val.slice (36) (64) (cp) rfl Tryz.underlying133 Tryz.sizeOf5 ⟨_,rfl⟩ ⟨_,rfl⟩ rfl (fun _=>rfl) om_ om_ om_)<|LW.re 7 (.slice (some ⟨pb,po+36,none⟩) 28 (cp-36)) rfl (by rw[if_neg om_])<|Le (Eff.appendAny (byC ((b.drop 36).take 28)) (sz:=1) (bytes:=1) (z:= .int .u8 0) (xs:=byC (([]:List UInt8))) (m0:=0) (o:=some (b5,[],0)) (m:=28) (pk:=[ownG 5 (byC (([]:List UInt8))) (some (b5,[],0))]) rfl rfl Tryz.underlying133 kr_ rfl om_ pk_ (by simp) ⟨rfl,rfl⟩ (by rw[V.byC_len,List.length_take,List.length_drop];omega) (fun hm0=>⟨pb,po+(36),rfl,fun w hw=>by obtain⟨r8,h8⟩:=sub_slice (b:=b) (a:=36) (n:=28);exact V.rangeAt_sub (hw.range hsrc hpb (by simp[ids])) (36) h8⟩) (V.byC_one _) om_ om_) fun o ho=>?_
 rw[← V.byC_append,List.nil_append] at*
 refine pA_ 10 ?_
 refine V.CW.perm (sg':=[ownG 5 (byC (dataTo b 0)) o]) ?_ (by simp[dataTo])
 refine loopA (γ:=Nat×V.OwnO) (fun k=>[(0,.slice (some ⟨pb,po,none⟩) b.length cp),(3,ownV (28+63*k.1) k.2),(4,.int .i64 (64*(k.1+1):Nat))]) (fun k=>[ownG 5 (byC (dataTo b k.1)) k.2]) (fun k=>k.1+1≤s∧ownOk 1 (28+63*k.1) (byC (dataTo b k.1)) k.2) (fun k=>s-k.1) ((0,o)) ⟨by omega,by simpa[dataTo] using ho⟩ fun k=>?_
 rintro⟨hk1,hk2⟩
 refine pA_ 9 ?_
 refine Cd_ rfl (fun h12=>?_) fun h12=>?_
 ·refine pA_ 9 ?_
  refine LW.re 18 (.int .i64 (64*(k.1+1)+1:Nat)) rfl (by congr 1)<|Lv Mv<|Lv Ar<|LW.re 20 (.int .i64 (64*(k.1+1)+64:Nat)) rfl (by congr 1)<|Lv (Val.slice (64*(k.1+1)+1) (64*(k.1+1)+64) (cp) rfl Tryz.underlying133 Tryz.sizeOf5 ⟨_,rfl⟩ ⟨_,rfl⟩ rfl (fun _=>rfl) om_ om_ om_)<|LW.re 21 (.slice (some ⟨pb,po+(64*(k.1+1)+1),none⟩) 63 (cp-(64*(k.1+1)+1))) rfl (by rw[if_neg om_,Nat.mul_one,show 64*(k.1+1)+64-(64*(k.1+1)+1)=63 by omega])<|Le (Eff.appendAny (byC ((b.drop (64*(k.1+1)+1)).take 63)) (sz:=1) (bytes:=1) (z:= .int .u8 0) (xs:=byC (dataTo b k.1)) (m0:=28+63*k.1) (o:=k.2) (m:=63) (pk:=[ownG 5 (byC (dataTo b k.1)) (k.2)]) rfl rfl Tryz.underlying133 kr_ rfl om_ pk_ (by simp) hk2 (by rw[V.byC_len,List.length_take,List.length_drop];omega) (fun hm0=>⟨pb,po+(64*(k.1+1)+1),rfl,fun w hw=>by obtain⟨r8,h8⟩:=sub_slice (b:=b) (a:=64*(k.1+1)+1) (n:=63);exact V.rangeAt_sub (hw.range hsrc hpb (by simp[ids])) (64*(k.1+1)+1) h8⟩) (V.byC_one _) om_ om_) fun o2 ho2=>pA_ 7 ?_
  refine LW.re 14 (.int .i64 (64*(k.1+1+1):Nat)) rfl (by congr 1)<|Lv Av<|Nl ?_
  rw[← V.byC_append,← dataTo_succ]
  exact roundA ((k.1+1,o2)) ⟨by omega,by rw[dataTo_succ,V.byC_append];exact ho2⟩ (by simp only;omega)
 ·have hde:dataL b=dataTo b k.1:=by unfold dataL;rw[show b.length/64-1=k.1 by omega]
  have hdl:(dataL b).length=28+63*k.1:=by rw[hde,dataTo_len _ _ om_]
  refine pA_ 8 ?_
  refine Lv (Val.convBytes (l:=dataL b) (o:=k.2) (by rw[hdl];rfl) Tryz.underlying133 Tryz.underlying5 Tryz.underlying9 (by rw[hdl,hde];exact hk2) (pk:=[ownG 5 (byC (dataL b)) k.2]) (by rw[hde];exact pk_) (by simp))<|pA_ 5 ?_
  exact fb_
def draftL (c:Int):List UInt8:=if spanF c=0 then[] else headL ⟨c,0,0,0,0,[],[]⟩ (List.replicate (capN c) 0)
theorem draftL_len {c:Int}(h:spanF c≠0):(draftL c).length=64:=by unfold draftL;rw[if_neg h,headL_len _ (by rw[List.length_replicate,(capN_span h).1];omega)]
theorem draft_c (c:Int)(w:World):Calls Tryz.prog 156 [.int .i64 c].toArray w fun e w'=>∃o:V.OwnO,ownOk 1 (draftL c).length (byC (draftL c)) o∧e= .returned (ownV (draftL c).length o)∧Hp ⟨w,[]⟩ ([ownG 5 (byC (draftL c)) o]) w':=by
 refine Cb_ Tryz.func156 rfl Tryz.ntmps156<|pA_ 9 ?_
 refine Le (Cz_ (span_c c)) fun _ _=>pA_ 3 ?_
 refine Cd_ rfl (fun h5=>?_) fun h5=>?_
 ·have hs8:spanF c=0:=by omega
  refine pA_ 8 ?_
  have e8:draftL c=[]:=by unfold draftL;rw[if_pos hs8]
  rw[e8]
  intro w' hw;exact⟨none,⟨rfl,rfl⟩,rfl,hw.perm (.refl _)⟩
 ·have hs8:spanF c≠0:=by omega
  have hsp:=capN_span hs8
  refine pA_ 5 ?_
  refine Lv (Bd [_,_,_,_,_,_,_])<|Lv Mv<|Le (Cz_ (cap_c c)) fun _ _=>LW.re 9 (.int .i64 (capN c:Nat)) rfl (by rw[capN_eq])<|Le (Eff.makeSlice (m:=capN c) (by_:=1) (zl:=[.int .u8 0]) rfl rfl Tryz.underlying133 kr_ Tryz.sizeOf5 (by exact Tryz.zeroValue5) kr_ rfl om_ om_ om_) fun b10 _=>?_
  rw[zeros_byC]
  refine LW.re 10 (.slice (some ⟨b10,0,none⟩) (List.replicate (capN c) (0:UInt8)).length (capN c)) rfl (by rw[List.length_replicate])<|Le (CM [] fun w hw hs=>head_c ⟨c,0,0,0,0,[],[]⟩ (List.replicate (capN c) 0) _ (capN c) (by rw[List.length_replicate];omega) ⟨by simp,by simp⟩ w (byE_of hw.at)) fun b _=>pA_ 5 ?_
  have e8:=draftL_len hs8
  have e9:draftL c=headL ⟨c,0,0,0,0,[],[]⟩ (List.replicate (capN c) 0):=by unfold draftL;rw[if_neg hs8]
  intro w' hw;exact⟨some (b,[],64),⟨by rw[V.byC_len,e8],by rw[V.byC_len,e8];rfl⟩,by rw[e8];rfl,by rw[V.ownG_some,List.append_nil,e9];exact hw.pick pk_⟩
end
end G
end Go.Proofs.YtjidffamcdcecaaGreat
namespace Go.Proofs.YtjidffamcdcecaaGreat.V
open Go Go.RowKit
set_option linter.unusedVariables false
def subs:List Nat→List (List Nat)
 |[]=>[[]]
 |x::r=>subs r++(subs r).map (x::·)
theorem mem_subs {s r:List Nat}(h:List.Sublist s r):s∈subs r:=by
 induction h with
 |slnil=>simp[subs]
 |cons a _ ih=>simp[subs,ih]
 |cons_cons a _ ih=>simp[subs,ih]
def LS (L:Array Bool)(rem sub:List Nat):Array Bool:=((List.range L.size).map fun j=>(L[j]?.getD false)||(rem.contains j&& !sub.contains j)).toArray
def batB (ops:Array Oper)(L:Array Bool)(rem:List Nat):Bool:=(subs rem).all fun sub=>sub.isEmpty||Region.ready .any ops (LS L rem sub)==sub
theorem LS_self (L:Array Bool)(rem:List Nat):LS L rem rem=L:=by
 apply Array.ext
 ·simp[LS]
 ·intro i h1 h2
  simp[LS,h2]
theorem LS_set {L:Array Bool}{rem sub:List Nat}{i:Nat}(hi:i∈sub)(hr:i∈rem)(hn:sub.Nodup):(LS L rem sub).setIfInBounds i true=LS L rem (sub.erase i):=by
 apply Array.ext
 ·simp[LS]
 ·intro j h1 h2
  have hj:j<L.size:=by simpa[LS] using h2
  rw[Array.getElem_setIfInBounds (by simpa[LS] using hj)]
  by_cases e:i=j
  ·subst e
   have h3:i∉sub.erase i:=fun h=>(hn.mem_erase_iff.1 h).1 rfl
   simp[LS,hj,hr,h3]
  ·rw[if_neg e]
   have h3:(sub.erase i).contains j=sub.contains j:=by
    have h4:j∈sub.erase i↔j∈sub:=List.mem_erase_of_ne (Ne.symm e)
    by_cases h5:j∈sub<;>simp[h4,h5]
   simp only[LS,List.getElem_toArray,List.getElem_map,List.getElem_range,h3]
theorem inj_fst {α:Type}:∀{l:List (Nat×α)},(l.map (·.1)).Nodup→∀{x y},x∈l→y∈l→x.1=y.1→x=y
 |a::r,hn,x,y,hx,hy,e=>by
  simp only[List.map_cons,List.nodup_cons] at hn
  rcases List.mem_cons.1 hx with e1|hx2<;>rcases List.mem_cons.1 hy with e2|hy2
  ·rw[e1,e2]
  ·exact absurd (by rw[← e1,e];exact List.mem_map_of_mem hy2) hn.1
  ·exact absurd (by rw[← e2,← e];exact List.mem_map_of_mem hx2) hn.1
  ·exact inj_fst hn.2 hx2 hy2 e
section
variable {P:Program}{n:Nat}{B:Base}{Q:Exit→Act→World→Prop}{ks:Ks}{sg:Sg}{ops:Array Oper}
abbrev It:=Nat×Tmp×Value
def Bop (P:Program)(n:Nat)(B:Base)(ops:Array Oper)(ks:Ks)(sg:Sg):List It→Prop
 |[]=>True
 |x::r=>(∃o,ops[x.1]? =some o∧gd ops ks o.guard=some true∧o.dst=some x.2.1∧Eff P n B o ks sg (α:=Unit) (fun _=>True) (fun _=>x.2.2) (fun _=>sg))∧Bop P n B ops ks sg r
theorem Bop.at {l:List It}(h:Bop P n B ops ks sg l){x:It}(hx:x∈l):∃o,ops[x.1]? =some o∧gd ops ks o.guard=some true∧o.dst=some x.2.1∧Eff P n B o ks sg (α:=Unit) (fun _=>True) (fun _=>x.2.2) (fun _=>sg):=by
 induction l with
 |nil=>simp at hx
 |cons a r ih=>
  rcases List.mem_cons.1 hx with rfl|hx
  ·exact h.1
  ·exact ih h.2 hx
def pushAll:List It→Ks→Ks
 |[],ks=>ks
 |x::r,ks=>(x.2.1,x.2.2)::pushAll r ks
theorem look_pushAll {ks:Ks}{j:Nat}{u:Value}:∀{l:List It},look (pushAll l ks) j=some u→(∃x∈l,x.2.1=j∧x.2.2=u)∨look ks j=some u
 |[],h=> .inr h
 |x::r,h=>by
  simp only[pushAll,look] at h
  by_cases e:x.2.1=j
  ·rw[e,Nat.beq_refl] at h
   exact .inl ⟨x,List.mem_cons_self ..,e,by simpa using h⟩
  ·have:Nat.beq x.2.1 j=false:=nbeq e
   rw[this] at h
   rcases look_pushAll h with⟨y,hy,h1⟩|h1
   ·exact .inl ⟨y,List.mem_cons_of_mem _ hy,h1⟩
   ·exact .inr h1
theorem RW.batch {S:Sg}{F:Nat}{L:Array Bool}(items:List It)(fu:Nat)(hF:F=fu+items.length)(hb:batB ops L (items.map (·.1))=true)(hk1:(items.all fun x=>Nat.blt x.2.1 n)=true)(hk2:(items.all fun x=>(ks.all fun y=> !(Nat.beq y.1 x.2.1)))=true)(hk3:(items.map (·.1)).Nodup)(hk4:(items.map (·.2.1)).Nodup)
 (hop:Bop P n B ops ks sg items)(hS:∃r,Pick S sg r)(h:RW P n B ops Q S fu (LS L (items.map (·.1)) []) (pushAll items ks) sg):RW P n B ops Q S F L ks sg:=by
 subst hF
 intro a w ha hw hS0
 have key:∀k (sub:List Nat),sub.length=k→List.Sublist sub (items.map (·.1))→∀a w,Fr n ks a→(∀x∈items,x.1∉sub→a.tmps[x.2.1]? =some x.2.2)→Hp B sg w→Hp B S w→
  wpAnyH P .any ops Q (Hp B S) (fu+k) (LS L (items.map (·.1)) sub) a w:=by
  intro k
  induction k with
  |zero=>
   intro sub hl hs a w ha hd hw hS1
   obtain rfl:sub=[]:=List.length_eq_zero_iff.1 hl
   refine h a w ⟨ha.defers,ha.size,fun j u hj=>?_⟩ hw hS1
   rcases look_pushAll hj with⟨x,hx,rfl,rfl⟩|hj
   ·exact hd x hx (by simp)
   ·exact ha.at_ j u hj
  |succ k ih=>
   intro sub hl hs a w ha hd hw hS1
   have hne:sub≠[]:=by rintro rfl;simp at hl
   have hnd:sub.Nodup:=hs.nodup hk3
   have hr:Region.ready .any ops (LS L (items.map (·.1)) sub)=sub:=by
    have h1:=List.all_eq_true.1 hb sub (mem_subs hs)
    simp only[Bool.or_eq_true,List.isEmpty_iff,beq_iff_eq] at h1
    exact h1.resolve_left hne
   refine wpAnyH_all hr hne fun i hi=>?_
   have hir:=hs.subset hi
   obtain⟨x,hx,rfl⟩:=List.mem_map.1 hir
   obtain⟨o,ho,hg,hdst,he⟩:=hop.at hx
   unfold wpOp
   simp only[ho]
   rw[if_pos (wanted_gd ha hg)]
   refine .inl (he a w _ _ ha hw fun _ w' _ hw'=>?_)
   obtain⟨r,hp⟩:=hS
   refine⟨hw'.pick hp,?_⟩
   rw[LS_set hi hir hnd,hdst]
   have hlt:x.2.1<n:=by have:=List.all_eq_true.1 hk1 x hx;simpa[Nat.blt_eq] using this
   have hdk:dok n (some x.2.1)=true:=by simpa[dok,Nat.blt_eq] using hlt
   have ha2:=ha.put hdk x.2.2
   refine ih (sub.erase x.1) (by rw[List.length_erase_of_mem hi];omega) ((List.erase_sublist ..).trans hs) _ w' ⟨ha2.defers,ha2.size,fun j u hj=>?_⟩ (fun y hy hyn=>?_) hw' (hw'.pick hp)
   ·refine ha2.at_ j u ?_
    simp only[push,look]
    have hne2:x.2.1≠j:=by
     rintro rfl
     have h4:=List.all_eq_true.1 hk2 x hx
     have:∀(ks:Ks),(ks.all fun y=> !(Nat.beq y.1 x.2.1))=true→look ks x.2.1=none:=by
      intro ks
      induction ks with
      |nil=>intro _;rfl
      |cons z r ih=>
       intro h5
       simp only[List.all_cons,Bool.and_eq_true] at h5
       have h6:Nat.beq z.1 x.2.1=false:=by simpa using h5.1
       obtain⟨z1,z2⟩:=z
       simp only[look]
       simp only at h6
       rw[h6]
       exact ih h5.2
     rw[this ks h4] at hj
     cases hj
    rw[nbeq hne2]
    exact hj
   ·by_cases e:y.1=x.1
    ·obtain rfl:=inj_fst hk3 hy hx e
     refine ha2.at_ _ _ ?_
     simp only[push,look,Nat.beq_refl]
    ·have hyn2:y.1∉sub:=fun h5=>hyn ((List.mem_erase_of_ne e).2 h5)
     have h6:y.2.1≠x.2.1:=fun h7=>e (by
      have h8:∀{l:List It},(l.map (·.2.1)).Nodup→x∈l→y∈l→y=x:=by
       intro l
       induction l with
       |nil=>intro _ h _;simp at h
       |cons z r ih=>
        intro hn h1 h2
        simp only[List.map_cons,List.nodup_cons] at hn
        rcases List.mem_cons.1 h1 with e1|h3<;>rcases List.mem_cons.1 h2 with e2|h4
        ·rw[e1,e2]
        ·exact absurd (by rw[← e1,← h7];exact List.mem_map_of_mem (f:=fun z:It=>z.2.1) h4) hn.1
        ·exact absurd (by rw[← e2,h7];exact List.mem_map_of_mem (f:=fun z:It=>z.2.1) h3) hn.1
        ·exact ih hn.2 h3 h4
      rw[h8 hk4 hx hy])
     show(a.tmps.setIfInBounds x.2.1 x.2.2)[y.2.1]? =some y.2.2
     rw[Array.getElem?_setIfInBounds_ne (Ne.symm h6)]
     exact hd y hy hyn2
 have h0:=key items.length (items.map (·.1)) (by simp) (List.Sublist.refl _) a w ha (fun x hx hxn=>absurd (List.mem_map_of_mem hx) hxn) hw hS0
 rwa [LS_self] at h0
end
theorem look_fresh {d:Nat}:∀{ks:Ks},(ks.all fun y=> !(Nat.beq y.1 d))=true→look ks d=none
 |[],_=>rfl
 |(z1,z2)::r,h=>by
  simp only[List.all_cons,Bool.and_eq_true] at h
  have h6:Nat.beq z1 d=false:=by simpa using h.1
  simp only[look]
  rw[h6]
  exact look_fresh h.2
theorem inj_snd {l:List It}(hn:(l.map (·.2.1)).Nodup){x y:It}(hx:x∈l)(hy:y∈l)(e:x.2.1=y.2.1):x=y:=by
 induction l with
 |nil=>simp at hx
 |cons z r ih=>
  simp only[List.map_cons,List.nodup_cons] at hn
  rcases List.mem_cons.1 hx with e1|h3<;>rcases List.mem_cons.1 hy with e2|h4
  ·rw[e1,e2]
  ·exact absurd (by rw[← e1,e];exact List.mem_map_of_mem (f:=fun z:It=>z.2.1) h4) hn.1
  ·exact absurd (by rw[← e2,← e];exact List.mem_map_of_mem (f:=fun z:It=>z.2.1) h3) hn.1
  ·exact ih hn.2 h3 h4
section
variable {P:Program}{n:Nat}{B:Base}{Q:Exit→Act→World→Prop}{ks:Ks}{sg:Sg}{ops:Array Oper}
theorem Fr.new {a:Act}{d:Nat}{v:Value}(ha:Fr n ks a)(hd:Nat.blt d n=true)(hf:(ks.all fun y=> !(Nat.beq y.1 d))=true):Fr n ks (a.put (some d) v):=by
 have hdk:dok n (some d)=true:=hd
 have ha2:=ha.put hdk v
 refine⟨ha2.defers,ha2.size,fun j u hj=>ha2.at_ j u ?_⟩
 simp only[push,look]
 have hne:d≠j:=by
  rintro rfl
  rw[look_fresh hf] at hj
  cases hj
 rw[nbeq hne]
 exact hj
end
end Go.Proofs.YtjidffamcdcecaaGreat.V
namespace Go.Proofs.YtjidffamcdcecaaGreat
open Go Go.RowKit V
set_option linter.unusedVariables false
set_option maxRecDepth 100000
set_option maxHeartbeats 1000000
namespace G
section
attribute [local irreducible] V.CW V.LW V.QW V.RW V.PQ V.Val V.Eff V.Qcall
open V (str byC ownV ownG ownS ownOk)
instance:Cal Tryz.prog 93:=⟨Tryz.call93⟩
instance:Cal Tryz.prog 95:=⟨Tryz.call95⟩
instance:Cal Tryz.prog 96:=⟨Tryz.call96⟩
instance:Cal Tryz.prog 97:=⟨Tryz.call97⟩
theorem or_u64 {a b:Int}{j:Nat}(hj:j≤64)(ha:0≤a∧a<2^j)(hb:0≤b∧b<2^j):0≤IntKind.u64.wrap (BitVec.ofInt IntKind.u64.bits a|||BitVec.ofInt IntKind.u64.bits b).toNat∧IntKind.u64.wrap (BitVec.ofInt IntKind.u64.bits a|||BitVec.ofInt IntKind.u64.bits b).toNat<2^j:=by
 have h64:(2:Int)^j≤2^64:=by
  have:=Nat.pow_le_pow_right (n:=2) om_ hj
  exact_mod_cast this
 obtain⟨x,rfl⟩:∃x:Nat,a=x:=⟨a.toNat,by omega⟩
 obtain⟨y,rfl⟩:∃y:Nat,b=y:=⟨b.toNat,by omega⟩
 have hx:x<2^j:=by exact_mod_cast ha.2
 have hy:y<2^j:=by exact_mod_cast hb.2
 have h64':2^j≤2^64:=Nat.pow_le_pow_right om_ hj
 have e:(BitVec.ofInt IntKind.u64.bits (x:Int)|||BitVec.ofInt IntKind.u64.bits (y:Int)).toNat=x|||y:=by
  show(BitVec.ofInt 64 (x:Int)|||BitVec.ofInt 64 (y:Int)).toNat=x|||y
  rw[BitVec.toNat_or,BitVec.ofInt_natCast,BitVec.ofInt_natCast,BitVec.toNat_ofNat,BitVec.toNat_ofNat,Nat.mod_eq_of_lt om_,Nat.mod_eq_of_lt om_]
 have hlt:x|||y<2^j:=Nat.or_lt_two_pow hx hy
 rw[e,IntWalk.u64_in _ om_]
 refine⟨by omega,?_⟩
 exact_mod_cast hlt
theorem get2_lt (l:List UInt8)(a:Nat):0≤getN l a 2∧getN l a 2<65536:=by
 have hb:∀u:UInt8,0≤((u.toNat:Nat):Int)∧((u.toNat:Nat):Int)<256:=fun u=>by have:=u.toNat_lt;omega
 have step:∀(v:Int) (u:UInt8) (i:Nat),i≤1→0≤v∧v<2^16→0≤getStep v u i∧getStep v u i<2^16:=fun v u i hi hv=>by
  unfold getStep
  have h1:=hb u
  refine or_u64 om_ hv ?_
  rw[IntWalk.u64_in ((u.toNat:Nat):Int) om_]
  have hi2:i=0∨i=1:=by omega
  rcases hi2 with rfl|rfl
  ·have e:(2:Int)^(min ((8:Int)*((0:Nat):Int)).toNat IntKind.u64.bits)=1:=by decide
   rw[e,Int.mul_one,IntWalk.u64_in _ om_]
   omega
  ·have e:(2:Int)^(min ((8:Int)*((1:Nat):Int)).toNat IntKind.u64.bits)=256:=by decide
   rw[e,IntWalk.u64_in _ om_]
   omega
 exact step _ _ 1 om_ (step _ _ 0 om_ ⟨by show(0:Int)≤0;omega,by show(0:Int)<2^16;decide⟩)
def blk0:Blk:=⟨0,0,0,0,0,[],[]⟩
def keysN (l:List UInt8):Nat:=(l[3]?.getD 0).toNat
def valsN (l:List UInt8):Nat:=(getN l 4 2).toNat
def decX (l:List UInt8)(c kd:Nat):Blk:=⟨(c:Nat),(kd:Nat),getN l 8 8,getN l 16 8,getN l 24 8,(dataL l).take (keysN l),((dataL l).drop (keysN l)).take (valsN l)⟩
def decF (l:List UInt8):Option Blk:=match headF (l.take 64) with
 |none=>none
 |some (c,kd)=>if l.length=spanF c*64∧keysN l+valsN l≤(dataL l).length∧mayF (decX l c kd)=true∧encL (decX l c kd)=l then some (decX l c kd) else none
def decV (o:Option Blk):Value:= .tuple #[.agg (blC (o.getD blk0)).toArray,.bool o.isSome]
theorem dec_none {l:List UInt8}(h:headF (l.take 64)=none):decF l=none:=by unfold decF;rw[h]
theorem dec_no {l:List UInt8}{c kd:Nat}(h:headF (l.take 64)=some (c,kd))(hn:¬(l.length=spanF c*64∧keysN l+valsN l≤(dataL l).length∧mayF (decX l c kd)=true∧encL (decX l c kd)=l)):decF l=none:=by unfold decF;rw[h];exact if_neg hn
theorem dec_yes {l:List UInt8}{c kd:Nat}(h:headF (l.take 64)=some (c,kd))(hn:l.length=spanF c*64∧keysN l+valsN l≤(dataL l).length∧mayF (decX l c kd)=true∧encL (decX l c kd)=l):decF l=some (decX l c kd):=by unfold decF;rw[h];exact if_pos hn
theorem head_some {l:List UInt8}{c kd:Nat}(h:headF l=some (c,kd)):l.length=64∧spanF c≠0∧kd≤3∧c≤3:=by
 unfold headF at h
 split at h
 ·rename_i hh
  simp only[Option.some.injEq,Prod.mk.injEq] at h
  obtain⟨rfl,rfl⟩:=h
  refine⟨hh.1,hh.2.2.1,hh.2.2.2,?_⟩
  rcases spanF_cases ((l[1]?.getD 0).toNat:Nat) with⟨a,e⟩|⟨a,e⟩|⟨a,e⟩|⟨a,e⟩|⟨a,e⟩<;>first|omega|exact absurd e hh.2.2.1
 ·cases h
theorem decode_c (l:List UInt8)(p:Option Addr)(cp:Nat)(hl:l.length≤1000)(hc:l.length≤cp)(w:World)(hp:V.slAt w p 1 byE l):Calls Tryz.prog 70 [.slice p l.length cp].toArray w fun e w'=>e= .returned (decV (decF l))∧Below w.heap.size w w':=by
 refine Cb_ Tryz.func70 rfl Tryz.ntmps70<|Sq<|Rg<|Le AA fun b2 _=>pA_ 11 ?_
 refine Cd_ rfl (fun h15=>?_) fun h15=>?_
 ·refine Sq<|Rg<|Lv (Bd (blC blk0))<|LeN (StW (cs:=blC blk0)) fun _ _=>Lv Av<|Nl<|Ps<|Rt<|Tr<|PQ.retCT rfl rfl rfl in_ Tryz.isAgg144 (by exact Tryz.sizeOf144) ?_
  have e8:decF l=none:=dec_none (by unfold headF;rw[if_neg (by rintro⟨a1,_⟩;rw[List.length_take] at a1;omega)])
  rw[e8]
  exact fb_
 ·obtain⟨pb,po,u0,rfl,hpb,hu0,hpr⟩:=V.slAt_at hp rfl (k:=0) om_
  obtain⟨u3,hu3⟩:∃u,l[3]? =some u:=⟨l[3]'om_,by simp⟩
  have hk3:keysN l=u3.toNat:=by unfold keysN;rw[hu3];rfl
  have hv2:=get2_lt l 4
  have hu256:=u3.toNat_lt
  have hkb:keysN l≤255:=by omega
  have hvb:valsN l≤65535:=by unfold valsN;omega
  refine pA_ 5 ?_
  refine Lv (Val.slice (0) (64) (cp) rfl Tryz.underlying133 Tryz.sizeOf5 rfl ⟨_,rfl⟩ rfl (fun _=>rfl) om_ om_ om_)<|LW.re 19 (.slice (some ⟨pb,po,none⟩) (l.take 64).length cp) rfl (by rw[List.length_take];simp;omega)<|Le (CV fun w hw=>Head_c (l.take 64) _ cp (by rw[List.length_take];omega) w (slAt_take (hw.slAt hp (by simp[ids])) 64)) fun _ _=>?_
  rcases hh:headF (l.take 64) with _|⟨c,kd⟩
  ·skip
   refine Lv Mv<|Lv Ex<|Lv Ex<|Lv Ex<|Lv Av<|Lv Av<|Lv Av<|Nl<|Ps<|Sq<|Sq<|Rg<|Lv Mv<|Lv Nt<|Lv Mv<|Lp<|Lp<|Lp<|Lp<|Lp<|Lp<|Lv Pt<|Nl<|Ps<|Ct<|Sq<|Rg<|Lv (Bd [_,_,_,_,_,_,_])<|LeN (StW (cs:=blC blk0)) fun _ _=>Lv Av<|Nl<|Ps<|Rt<|Tr<|PQ.retCT rfl rfl rfl in_ Tryz.isAgg144 (by exact Tryz.sizeOf144) ?_
   rw[dec_none hh]
   exact fb_
  ·have hhs:=head_some hh
   have hsl:=span_le (c:Nat)
   have hsp:=capN_span hhs.2.1
   refine pA_ 18 ?_
   refine Le (Cz_ (span_c (c:Nat))) fun _ _=>pA_ 5 ?_
   refine Cd_ rfl (fun h33=>?_) fun h33=>?_
   ·refine Sq<|Rg<|Lv (Bd [_,_,_,_,_,_,_])<|LeN (StW (cs:=blC blk0)) fun _ _=>Lv Av<|Nl<|Ps<|Rt<|Tr<|PQ.retCT rfl rfl rfl in_ Tryz.isAgg144 (by exact Tryz.sizeOf144) ?_
    rw[dec_no hh (fun hn=>by omega)]
    exact fb_
   ·refine pA_ 3 ?_
    refine Qt<|Qv Mv<|Qv (Val.indexAddrN (i:=3) rfl rfl Tryz.underlying133 Tryz.sizeOf5 om_)<|Qv (Val.loadO rfl Tryz.isAgg5 hpb (by simp[ids]) (hpr 3 u3 hu3 0 _ rfl))<|Qv Cv<|QW.re 38 (.int .i64 (keysN l:Nat)) rfl (by rw[hk3];congr 1;exact IntWalk.i64_in _ om_)<|Qv Mv<|Qc (QV fun w hw=>(bget_c l _ cp 4 2 om_ om_ hl w (hw.slAt hp (by simp[ids]))))<|Qv Cv<|QW.re 41 (.int .i64 (valsN l:Nat)) rfl (by unfold valsN;congr 1;rw[IntWalk.i64_in _ om_];omega)<|pA_ 7 ?_
    refine Le (CV fun w hw=>data_c l (spanF (c:Nat)) _ cp ⟨by omega,by omega,by omega⟩ hc w (hw.slAt hp (by simp[ids]))) fun _ _=>pA_ 14 ?_
    refine Cd_ rfl (fun h49=>?_) fun h49=>?_
    ·refine Sq<|Rg<|Lv (Bd [_,_,_,_,_,_,_])<|LeN (StW (cs:=blC blk0)) fun _ _=>Lv Av<|Nl<|Ps<|Rt<|Tr<|PQ.retCT rfl rfl rfl in_ Tryz.isAgg144 (by exact Tryz.sizeOf144) ?_
     rw[dec_no hh (fun hn=>by omega)]
     exact fb_
    ·refine pA_ 3 ?_
     refine Dr ([])<|pR_ [0,1,2,4,6,8,9] ?_
     refine Rv 10 rfl (Val.sliceStr 0 (keysN l) rfl Tryz.underlying9 rfl ⟨_,rfl⟩ om_ om_)<|RW.re 61 (str ((dataL l).take (keysN l))) rfl (by simp)<|pR_ [11,12,13,14,15] ?_
     refine RW.re 66 (.int .i64 (keysN l+valsN l:Nat)) rfl (by congr 1)<|Rv 16 rfl (Val.sliceStr (keysN l) (keysN l+valsN l) rfl Tryz.underlying9 ⟨_,rfl⟩ ⟨_,rfl⟩ om_ om_)<|RW.re 67 (str (((dataL l).drop (keysN l)).take (valsN l))) rfl (by rw[Nat.add_sub_cancel_left])<|RW.any [3,18] kr_ (by simp) fun i hi=>?_
     simp only[List.mem_cons,List.not_mem_nil,or_false] at hi
     rcases hi with rfl|rfl
     ·refine Ro rfl (CV fun w hw=>(bget_c l _ cp 8 8 om_ om_ hl w (hw.slAt hp (by simp[ids])))) fun _ _=>RW.any [5,18] kr_ (by simp) fun i hi=>?_
      simp only[List.mem_cons,List.not_mem_nil,or_false] at hi
      rcases hi with rfl|rfl
      ·refine Ro rfl (CV fun w hw=>(bget_c l _ cp 16 8 om_ om_ hl w (hw.slAt hp (by simp[ids])))) fun _ _=>RW.any [7,18] kr_ (by simp) fun i hi=>?_
       simp only[List.mem_cons,List.not_mem_nil,or_false] at hi
       rcases hi with rfl|rfl
       ·refine Ro rfl (CV fun w hw=>(bget_c l _ cp 24 8 om_ om_ hl w (hw.slAt hp (by simp[ids])))) fun _ _=>Rv 17 rfl (Bd (blC (decX l c kd)))<|Re 18 rfl AA fun b10 _=>ReN 19 rfl StW fun _ _=>pA_ 4 ?_
        refine Lv Lw<|Le (Cn_ (encode_c (decX l c kd) ⟨by unfold decX;rw[List.length_take];omega,by unfold decX;rw[List.length_take,List.length_drop];omega⟩)) fun o ho=>pA_ 13 ?_
        refine LW.split (d:=76) rfl (fun h76=>?_) (fun h76=>?_)
        ·replace h76:=bT h76
         have hmx:¬mayF (decX l c kd)=true:=by intro h8;rw[if_pos h8] at h76;exact absurd rfl h76
         refine Lp<|Lp<|Lp<|Lp<|Lp<|Lv Pt<|Nl<|Ps<|Ct<|Sq<|Rg<|Lv (Bd [_,_,_,_,_,_,_])<|LeN (StW (cs:=blC blk0)) fun _ _=>Lv Av<|Nl<|Ps<|Rt<|Tr<|PQ.retCT rfl rfl rfl in_ Tryz.isAgg144 (by exact Tryz.sizeOf144) ?_
         rw[dec_no hh (fun hn=>by first|exact hmx hn.2.2.1|(apply h82;unfold encR;rw[if_pos hn.2.2.1];exact hn.2.2.2))]
         exact fb_
        ·replace h76:=bF h76
         have hmx:mayF (decX l c kd)=true:=by
          by_cases h8:mayF (decX l c kd)=true
          ·exact h8
          ·rw[if_neg h8] at h76;exact absurd h76 (by decide)
         refine Lv Mv<|Lv (Val.convBytes (l:=encR (decX l c kd)) (o:=o) rfl Tryz.underlying133 Tryz.underlying5 Tryz.underlying9 ho (pk:=[ownG 5 (byC (encR (decX l c kd))) o]) pk_ (by simp))<|Lv Mv<|Lv (Val.convSl rfl Tryz.underlying133 Tryz.underlying5 Tryz.underlying9 (fun w hw=>hw.slAt hp (by simp[ids])))<|pA_ 4 ?_
         refine Cd_ rfl (fun h82=>?_) fun h82=>?_
         ·have h82:¬encR (decX l c kd)=l:=by simpa using h82
          refine Sq<|Rg<|Lv (Bd [_,_,_,_,_,_,_])<|LeN (StW (cs:=blC blk0)) fun _ _=>Lv Av<|Nl<|Ps<|Rt<|Tr<|PQ.retCT rfl rfl rfl in_ Tryz.isAgg144 (by exact Tryz.sizeOf144) ?_
          rw[dec_no hh (fun hn=>by first|exact hmx hn.2.2.1|(apply h82;unfold encR;rw[if_pos hn.2.2.1];exact hn.2.2.2))]
          exact fb_
         ·have h82:encR (decX l c kd)=l:=by simpa using h82
          refine Sk<|Ps<|Sq<|Rg<|Lv Lw<|LeN (StW (cs:=blC (decX l c kd))) fun _ _=>Lv Av<|Nl<|Ps<|Rt<|PQ.retCT rfl rfl rfl in_ Tryz.isAgg144 (by exact Tryz.sizeOf144) ?_
          rw[dec_yes hh ⟨by omega,by omega,hmx,by have h8:=h82;unfold encR at h8;rw[if_pos hmx] at h8;exact h8⟩]
          exact fb_
       ·refine Ro rfl AA fun b10 _=>Re 7 rfl (CV fun w hw=>(bget_c l _ cp 24 8 om_ om_ hl w (hw.slAt hp (by simp[ids])))) fun _ _=>Rv 17 rfl (Bd (blC (decX l c kd)))<|ReN 19 rfl StW fun _ _=>pA_ 4 ?_
        refine Lv Lw<|Le (Cn_ (encode_c (decX l c kd) ⟨by unfold decX;rw[List.length_take];omega,by unfold decX;rw[List.length_take,List.length_drop];omega⟩)) fun o ho=>pA_ 13 ?_
        refine LW.split (d:=76) rfl (fun h76=>?_) (fun h76=>?_)
        ·replace h76:=bT h76
         have hmx:¬mayF (decX l c kd)=true:=by intro h8;rw[if_pos h8] at h76;exact absurd rfl h76
         refine Lp<|Lp<|Lp<|Lp<|Lp<|Lv Pt<|Nl<|Ps<|Ct<|Sq<|Rg<|Lv (Bd [_,_,_,_,_,_,_])<|LeN (StW (cs:=blC blk0)) fun _ _=>Lv Av<|Nl<|Ps<|Rt<|Tr<|PQ.retCT rfl rfl rfl in_ Tryz.isAgg144 (by exact Tryz.sizeOf144) ?_
         rw[dec_no hh (fun hn=>by first|exact hmx hn.2.2.1|(apply h82;unfold encR;rw[if_pos hn.2.2.1];exact hn.2.2.2))]
         exact fb_
        ·replace h76:=bF h76
         have hmx:mayF (decX l c kd)=true:=by
          by_cases h8:mayF (decX l c kd)=true
          ·exact h8
          ·rw[if_neg h8] at h76;exact absurd h76 (by decide)
         refine Lv Mv<|Lv (Val.convBytes (l:=encR (decX l c kd)) (o:=o) rfl Tryz.underlying133 Tryz.underlying5 Tryz.underlying9 ho (pk:=[ownG 5 (byC (encR (decX l c kd))) o]) pk_ (by simp))<|Lv Mv<|Lv (Val.convSl rfl Tryz.underlying133 Tryz.underlying5 Tryz.underlying9 (fun w hw=>hw.slAt hp (by simp[ids])))<|pA_ 4 ?_
         refine Cd_ rfl (fun h82=>?_) fun h82=>?_
         ·have h82:¬encR (decX l c kd)=l:=by simpa using h82
          refine Sq<|Rg<|Lv (Bd [_,_,_,_,_,_,_])<|LeN (StW (cs:=blC blk0)) fun _ _=>Lv Av<|Nl<|Ps<|Rt<|Tr<|PQ.retCT rfl rfl rfl in_ Tryz.isAgg144 (by exact Tryz.sizeOf144) ?_
          rw[dec_no hh (fun hn=>by first|exact hmx hn.2.2.1|(apply h82;unfold encR;rw[if_pos hn.2.2.1];exact hn.2.2.2))]
          exact fb_
         ·have h82:encR (decX l c kd)=l:=by simpa using h82
          refine Sk<|Ps<|Sq<|Rg<|Lv Lw<|LeN (StW (cs:=blC (decX l c kd))) fun _ _=>Lv Av<|Nl<|Ps<|Rt<|PQ.retCT rfl rfl rfl in_ Tryz.isAgg144 (by exact Tryz.sizeOf144) ?_
          rw[dec_yes hh ⟨by omega,by omega,hmx,by have h8:=h82;unfold encR at h8;rw[if_pos hmx] at h8;exact h8⟩]
          exact fb_
      ·refine Ro rfl AA fun b10 _=>Re 5 rfl (CV fun w hw=>(bget_c l _ cp 16 8 om_ om_ hl w (hw.slAt hp (by simp[ids])))) fun _ _=>Re 7 rfl (CV fun w hw=>(bget_c l _ cp 24 8 om_ om_ hl w (hw.slAt hp (by simp[ids])))) fun _ _=>Rv 17 rfl (Bd (blC (decX l c kd)))<|ReN 19 rfl StW fun _ _=>pA_ 4 ?_
       refine Lv Lw<|Le (Cn_ (encode_c (decX l c kd) ⟨by unfold decX;rw[List.length_take];omega,by unfold decX;rw[List.length_take,List.length_drop];omega⟩)) fun o ho=>pA_ 13 ?_
       refine LW.split (d:=76) rfl (fun h76=>?_) (fun h76=>?_)
       ·replace h76:=bT h76
        have hmx:¬mayF (decX l c kd)=true:=by intro h8;rw[if_pos h8] at h76;exact absurd rfl h76
        refine Lp<|Lp<|Lp<|Lp<|Lp<|Lv Pt<|Nl<|Ps<|Ct<|Sq<|Rg<|Lv (Bd [_,_,_,_,_,_,_])<|LeN (StW (cs:=blC blk0)) fun _ _=>Lv Av<|Nl<|Ps<|Rt<|Tr<|PQ.retCT rfl rfl rfl in_ Tryz.isAgg144 (by exact Tryz.sizeOf144) ?_
        rw[dec_no hh (fun hn=>by first|exact hmx hn.2.2.1|(apply h82;unfold encR;rw[if_pos hn.2.2.1];exact hn.2.2.2))]
        exact fb_
       ·replace h76:=bF h76
        have hmx:mayF (decX l c kd)=true:=by
         by_cases h8:mayF (decX l c kd)=true
         ·exact h8
         ·rw[if_neg h8] at h76;exact absurd h76 (by decide)
        refine Lv Mv<|Lv (Val.convBytes (l:=encR (decX l c kd)) (o:=o) rfl Tryz.underlying133 Tryz.underlying5 Tryz.underlying9 ho (pk:=[ownG 5 (byC (encR (decX l c kd))) o]) pk_ (by simp))<|Lv Mv<|Lv (Val.convSl rfl Tryz.underlying133 Tryz.underlying5 Tryz.underlying9 (fun w hw=>hw.slAt hp (by simp[ids])))<|pA_ 4 ?_
        refine Cd_ rfl (fun h82=>?_) fun h82=>?_
        ·have h82:¬encR (decX l c kd)=l:=by simpa using h82
         refine Sq<|Rg<|Lv (Bd [_,_,_,_,_,_,_])<|LeN (StW (cs:=blC blk0)) fun _ _=>Lv Av<|Nl<|Ps<|Rt<|Tr<|PQ.retCT rfl rfl rfl in_ Tryz.isAgg144 (by exact Tryz.sizeOf144) ?_
         rw[dec_no hh (fun hn=>by first|exact hmx hn.2.2.1|(apply h82;unfold encR;rw[if_pos hn.2.2.1];exact hn.2.2.2))]
         exact fb_
        ·have h82:encR (decX l c kd)=l:=by simpa using h82
         refine Sk<|Ps<|Sq<|Rg<|Lv Lw<|LeN (StW (cs:=blC (decX l c kd))) fun _ _=>Lv Av<|Nl<|Ps<|Rt<|PQ.retCT rfl rfl rfl in_ Tryz.isAgg144 (by exact Tryz.sizeOf144) ?_
         rw[dec_yes hh ⟨by omega,by omega,hmx,by have h8:=h82;unfold encR at h8;rw[if_pos hmx] at h8;exact h8⟩]
         exact fb_
     ·refine Ro rfl AA fun b10 _=>Re 3 rfl (CV fun w hw=>(bget_c l _ cp 8 8 om_ om_ hl w (hw.slAt hp (by simp[ids])))) fun _ _=>Re 5 rfl (CV fun w hw=>(bget_c l _ cp 16 8 om_ om_ hl w (hw.slAt hp (by simp[ids])))) fun _ _=>Re 7 rfl (CV fun w hw=>(bget_c l _ cp 24 8 om_ om_ hl w (hw.slAt hp (by simp[ids])))) fun _ _=>Rv 17 rfl (Bd (blC (decX l c kd)))<|ReN 19 rfl StW fun _ _=>pA_ 4 ?_
      refine Lv Lw<|Le (Cn_ (encode_c (decX l c kd) ⟨by unfold decX;rw[List.length_take];omega,by unfold decX;rw[List.length_take,List.length_drop];omega⟩)) fun o ho=>pA_ 13 ?_
      refine LW.split (d:=76) rfl (fun h76=>?_) (fun h76=>?_)
      ·replace h76:=bT h76
       have hmx:¬mayF (decX l c kd)=true:=by intro h8;rw[if_pos h8] at h76;exact absurd rfl h76
       refine Lp<|Lp<|Lp<|Lp<|Lp<|Lv Pt<|Nl<|Ps<|Ct<|Sq<|Rg<|Lv (Bd [_,_,_,_,_,_,_])<|LeN (StW (cs:=blC blk0)) fun _ _=>Lv Av<|Nl<|Ps<|Rt<|Tr<|PQ.retCT rfl rfl rfl in_ Tryz.isAgg144 (by exact Tryz.sizeOf144) ?_
       rw[dec_no hh (fun hn=>by first|exact hmx hn.2.2.1|(apply h82;unfold encR;rw[if_pos hn.2.2.1];exact hn.2.2.2))]
       exact fb_
      ·replace h76:=bF h76
       have hmx:mayF (decX l c kd)=true:=by
        by_cases h8:mayF (decX l c kd)=true
        ·exact h8
        ·rw[if_neg h8] at h76;exact absurd h76 (by decide)
       refine Lv Mv<|Lv (Val.convBytes (l:=encR (decX l c kd)) (o:=o) rfl Tryz.underlying133 Tryz.underlying5 Tryz.underlying9 ho (pk:=[ownG 5 (byC (encR (decX l c kd))) o]) pk_ (by simp))<|Lv Mv<|Lv (Val.convSl rfl Tryz.underlying133 Tryz.underlying5 Tryz.underlying9 (fun w hw=>hw.slAt hp (by simp[ids])))<|pA_ 4 ?_
       refine Cd_ rfl (fun h82=>?_) fun h82=>?_
       ·have h82:¬encR (decX l c kd)=l:=by simpa using h82
        refine Sq<|Rg<|Lv (Bd [_,_,_,_,_,_,_])<|LeN (StW (cs:=blC blk0)) fun _ _=>Lv Av<|Nl<|Ps<|Rt<|Tr<|PQ.retCT rfl rfl rfl in_ Tryz.isAgg144 (by exact Tryz.sizeOf144) ?_
        rw[dec_no hh (fun hn=>by first|exact hmx hn.2.2.1|(apply h82;unfold encR;rw[if_pos hn.2.2.1];exact hn.2.2.2))]
        exact fb_
       ·have h82:encR (decX l c kd)=l:=by simpa using h82
        refine Sk<|Ps<|Sq<|Rg<|Lv Lw<|LeN (StW (cs:=blC (decX l c kd))) fun _ _=>Lv Av<|Nl<|Ps<|Rt<|PQ.retCT rfl rfl rfl in_ Tryz.isAgg144 (by exact Tryz.sizeOf144) ?_
        rw[dec_yes hh ⟨by omega,by omega,hmx,by have h8:=h82;unfold encR at h8;rw[if_pos hmx] at h8;exact h8⟩]
        exact fb_
end
section
attribute [local irreducible] V.CW V.LW V.QW V.RW V.PQ V.Val V.Eff V.Qcall
open V (str byC ownV ownG ownS ownOk)
structure DvR where
 db:Nat
 cb:Nat
 rest:List Value
 cap:Nat
def dxC (x:DvR)(D:List Ce)(k:Cnt):List Value:= .slice (some ⟨x.cb,0,none⟩) D.length x.cap::ctC k
def cxC (x:DvR)(D:List Ce):List Value:=D.flatMap ceC++x.rest
abbrev dvS (x:DvR)(D:List Ce)(k:Cnt):Sg:=[[(x.db,.cells (dxC x D k).toArray 121 (0,0))],[(x.cb,.cells (cxC x D).toArray 126 (0,0))]]
theorem dvB {x:DvR}{D:List Ce}{k:Cnt}{w:World}(hs:Sat (dvS x D k) w):w.heap[x.db]? =some (.cells (dxC x D k).toArray 121 (0,0))∧w.heap[x.cb]? =some (.cells (cxC x D).toArray 126 (0,0)):=⟨hs.own (x.db,.cells (dxC x D k).toArray 121 (0,0)) (by simp),hs.own (x.cb,.cells (cxC x D).toArray 126 (0,0)) (by simp)⟩
theorem dv_of (db cb:Nat)(D:List Ce)(k:Cnt):devS db cb D k=dvS ⟨db,cb,[],D.length⟩ D k:=by unfold devS dvS dvC dxC cxC;simp
theorem cx_len (x:DvR)(D:List Ce):(cxC x D).length=D.length*193+x.rest.length:=by unfold cxC;rw[List.length_append,V.flatMap_len ceC_len]
theorem cx_at {x:DvR}{D:List Ce}{i:Nat}{c:Ce}(hc:D[i]? =some c){o:Nat}(ho:o≤193){cs r:List Value}(h:(ceC c).drop o=cs++r):∃r2,(cxC x D).drop (i*193+o)=cs++r2:=by
 obtain⟨r2,h2⟩:=flat_at ceC_len hc ho h
 have hi:=(List.getElem?_eq_some_iff.1 hc).1
 have hmul:=Nat.mul_le_mul_right 193 (show i+1≤D.length from hi)
 refine⟨r2++x.rest,?_⟩
 unfold cxC
 rw[List.drop_append_of_le_length (by rw[V.flatMap_len ceC_len];omega),h2,List.append_assoc]
theorem cx_now {x:DvR}{D:List Ce}{i:Nat}{c:Ce}(hc:D[i]? =some c):∃r,(cxC x D).drop (i*193+0)=byC c.now.1++r:=cx_at hc om_ (ce_at0 c)
theorem cx_kept {x:DvR}{D:List Ce}{i:Nat}{c:Ce}(hc:D[i]? =some c):∃r,(cxC x D).drop (i*193+64)=byC c.kept.1++r:=cx_at hc om_ (ce_at64 c)
theorem cx_way {x:DvR}{D:List Ce}{i:Nat}{c:Ce}(hc:D[i]? =some c):∃r,(cxC x D).drop (i*193+128)=byC c.way.1++r:=cx_at hc om_ (ce_at128 c)
theorem cx_all {x:DvR}{D:List Ce}{i:Nat}{c:Ce}(hc:D[i]? =some c):∃r,(cxC x D).drop (i*193+0)=ceC c++r:=cx_at hc om_ (r:=[]) (by simp)
theorem cx_sent {x:DvR}{D:List Ce}{i:Nat}{c:Ce}(hc:D[i]? =some c):(cxC x D)[i*193+192]? =some (.bool c.sent):=by
 obtain⟨r,hr⟩:=cx_at (x:=x) hc (o:=192) om_ (r:=[]) (by rw[ce_at192,List.append_nil])
 have h:=congrArg (fun l=>l[0]?) hr
 simpa using h
theorem cx_in {x:DvR}{D:List Ce}{i:Nat}{c c':Ce}(hc:D[i]? =some c)(o:Nat)(cs:List Value)(h:V.splice (ceC c) o cs=ceC c')(ho:o+cs.length≤193):V.splice (cxC x D) (i*193+o) cs=cxC x (D.set i c'):=splice_in ceC_len hc o cs h ho x.rest
theorem cx_sl {x:DvR}{D:List Ce}{i:Nat}{c:Ce}{w:World}(hc:D[i]? =some c)(hb:w.heap[x.cb]? =some (.cells (cxC x D).toArray 126 (0,0))){o:Nat}(ho:o≤193){b:B64}{r:List Value}(h:(ceC c).drop o=byC b.1++r):V.slAt w (some ⟨x.cb,i*193+o,none⟩) 1 byE b.1:=by
 obtain⟨r2,h2⟩:=cx_at (x:=x) hc ho h
 refine .inr ⟨x.cb,i*193+o,rfl,V.lt_of_some hb,fun j u hj=>?_⟩
 have h3:w.rangeAt x.cb (i*193+o) (b.1.flatMap byE):=V.range_of_block hb (by rw[← byC_flat];exact h2)
 obtain⟨r3,h5⟩:=V.drop_flatMap byE_len b.1 j u hj
 exact V.rangeAt_sub h3 (j*1) h5
def upD (D:List Ce)(line:Int)(f:Ce→Ce):List Ce:=if 0≤line then D.modify line.toNat f else D
theorem upD_len (D:List Ce)(line:Int)(f:Ce→Ce):(upD D line f).length=D.length:=by unfold upD;split<;>simp
theorem upD_set {D:List Ce}{i:Nat}{c:Ce}(hc:D[i]? =some c)(f:Ce→Ce):upD D (i:Nat) f=D.set i (f c):=by
 unfold upD
 rw[if_pos om_,Int.toNat_natCast]
 apply List.ext_getElem?
 intro j
 rw[List.getElem?_modify,List.getElem?_set]
 by_cases e:i=j
 ·subst e
  obtain⟨hi,hv⟩:=List.getElem?_eq_some_iff.1 hc
  simp[hi,hv]
 ·simp[e]
theorem upD_out {D:List Ce}{line:Int}(h:¬(0≤line∧line<D.length))(f:Ce→Ce):upD D line f=D:=by
 unfold upD
 split
 ·rename_i h0
  apply List.ext_getElem?
  intro j
  rw[List.getElem?_modify]
  by_cases e:line.toNat=j
  ·have hn:D[j]? =none:=List.getElem?_eq_none om_
   simp[e,hn]
  ·simp[e]
 ·rfl
def inD (L:Nat)(line:Int):Bool:=decide (0≤line∧line<L)
theorem th_in (L:Nat)(line:Int):thB L line 0 0=inD L line:=by unfold thB inD;simp
def er2 (b:Bool):Int:=if b=true then 0 else 2
theorem er_t {b:Bool}(h:er2 b≠0):b=false:=by cases b with|false=>rfl|true=>exact absurd rfl h
theorem er_f {b:Bool}(h:er2 b=0):b=true:=by cases b with|false=>exact absurd h (by decide)|true=>rfl
theorem in_get {D:List Ce}{line:Int}(h:inD D.length line=true):∃(i:Nat) (c:Ce),line=(i:Nat)∧D[i]? =some c:=by
 unfold inD at h
 simp only[decide_eq_true_eq] at h
 exact⟨line.toNat,D[line.toNat]'om_,by omega,by simp⟩
theorem in_out {D:List Ce}{line:Int}(h:inD D.length line=false):¬(0≤line∧line<D.length):=by unfold inD at h;simpa using h
theorem in_of {D:List Ce}{i:Nat}{c:Ce}(hc:D[i]? =some c):inD D.length (i:Nat)=true:=by
 have hi:=(List.getElem?_eq_some_iff.1 hc).1
 unfold inD;simp;exact hi
def nowL (D:List Ce)(line:Int):List UInt8:=if 0≤line then(D[line.toNat]?.map fun c=>c.now.1).getD [] else[]
theorem nowL_of {D:List Ce}{i:Nat}{c:Ce}(hc:D[i]? =some c):nowL D (i:Nat)=c.now.1:=by unfold nowL;rw[if_pos om_,Int.toNat_natCast,hc];rfl
theorem nowL_out {D:List Ce}{line:Int}(h:¬(0≤line∧line<D.length)):nowL D line=[]:=by
 unfold nowL;split
 ·rw[List.getElem?_eq_none om_];rfl
 ·rfl
theorem lines_g (db n c:Nat)(p:Option Addr)(r:List Value)(w:World)(hB:w.heap[db]? =some (.cells (.slice p n c::r).toArray 121 (0,0))):Calls Tryz.prog 44 [.pointer (some ⟨db,0,none⟩)].toArray w fun e w'=>e= .returned (.int .i64 (n:Nat))∧Below w.heap.size w w':=by
 refine Cb_ Tryz.func44 rfl Tryz.ntmps44<|pA_ 20 ?_
 refine Lv (Val.loadO rfl Tryz.isAgg115 (V.lt_of_some hB) (by simp[ids]) (V.cell_of_block hB rfl))<|pA_ 6 ?_
 exact fb_
theorem there_g (db n c:Nat)(p:Option Addr)(r:List Value)(line at_:Int)(m:Nat)(hn:m≤100000)(w:World)(hB:w.heap[db]? =some (.cells (.slice p n c::r).toArray 121 (0,0))):Calls Tryz.prog 76 [.pointer (some ⟨db,0,none⟩),.int .i64 line,.int .i64 at_,.int .i64 (m:Nat)].toArray w fun e w'=>e= .returned (.int .i64 (er2 (thB n line at_ m)))∧Below w.heap.size w w':=by
 refine Cb_ Tryz.func76 rfl Tryz.ntmps76<|pA_ 21 ?_
 refine LW.split (d:=13) rfl (fun h13=>?_) (fun h13=>?_)
 ·replace h13:=bT h13
  refine pA_ 29 ?_
  have e8:thB n line at_ m=false:=by unfold thB;simp;omega
  rw[e8]
  exact fb_
 ·replace h13:=bF h13
  refine pA_ 4 ?_
  refine Lv (Val.loadO rfl Tryz.isAgg115 (V.lt_of_some hB) (by simp[ids]) (V.cell_of_block hB rfl))<|pA_ 4 ?_
  refine LW.split (d:=22) rfl (fun h22=>?_) (fun h22=>?_)
  ·replace h22:=bT h22
   refine pA_ 20 ?_
   have e8:thB n line at_ m=false:=by unfold thB;simp;omega
   rw[e8]
   exact fb_
  ·replace h22:=bF h22
   refine pA_ 4 ?_
   refine LW.split (d:=26) rfl (fun h26=>?_) (fun h26=>?_)
   ·replace h26:=bT h26
    refine pA_ 16 ?_
    have e8:thB n line at_ m=false:=by unfold thB;simp;omega
    rw[e8]
    exact fb_
   ·replace h26:=bF h26
    refine pA_ 7 ?_
    refine Cd_ rfl (fun h31=>?_) fun h31=>?_
    ·refine pA_ 8 ?_
     have e8:thB n line at_ m=false:=by unfold thB;simp;omega
     rw[e8]
     exact fb_
    ·refine pA_ 9 ?_
     have e8:thB n line at_ m=true:=by unfold thB;simp;omega
     rw[e8]
     exact fb_
theorem load_g (x:DvR)(D:List Ce)(k:Cnt)(line:Int)(w:World)(hs:Sat (dvS x D k) w):Calls Tryz.prog 98 [.pointer (some ⟨x.db,0,none⟩),.int .i64 line].toArray w fun e w'=>∃o:V.OwnO,ownOk 1 (nowL D line).length (byC (nowL D line)) o∧e= .returned (.tuple #[ownV (nowL D line).length o,.int .i64 (er2 (inD D.length line))])∧Hp ⟨w,[]⟩ ([ownG 5 (byC (nowL D line)) o]) w':=by
 obtain⟨hB,hC⟩:=dvB hs
 refine Cb_ Tryz.func98 rfl Tryz.ntmps98<|pA_ 11 ?_
 refine Le (CV fun w hw=>there_g x.db D.length x.cap _ (ctC k) line 0 0 om_ w ((hw.old x.db (V.lt_of_some hB) (by simp[ids])).trans hB)) fun _ _=>LW.re 9 (.int .i64 (er2 (inD D.length line))) rfl (by rw[th_in])<|pA_ 9 ?_
 refine Cd_ rfl (fun h11=>?_) fun h11=>?_
 ·have hb:=er_t h11
  have ho:=in_out hb
  refine pA_ 10 ?_
  rw[nowL_out ho]
  intro w' hw;exact⟨none,⟨rfl,rfl⟩,rfl,(hw.pick (ss:=[]) .nil).perm (.refl _)⟩
 ·have hb:=er_f h11
  obtain⟨i,c,rfl,hc⟩:=in_get hb
  have hi:=(List.getElem?_eq_some_iff.1 hc).1
  refine pA_ 7 ?_
  refine Lv (Val.loadO rfl Tryz.isAgg115 (V.lt_of_some hB) (by simp[ids]) (V.cell_of_block hB rfl))<|Lv Mv<|Lv (Val.indexAddrN rfl rfl Tryz.underlying115 Tryz.sizeOf126 hi)<|Lv (Fa 0 124)<|Lv (Val.sliceArr 0 64 rfl Tryz.underlying124 Tryz.sizeOf5 rfl rfl om_ om_)<|LW.re 20 (.slice (some ⟨x.cb,i*193+0,none⟩) 64 64) rfl (by simp)<|Le (CM [] fun w hw hs0=>cloneB_c c.now.1 _ 64 64 c.now.2.symm (by have:=c.now.2;omega) w (hw.slAt (cx_sl (o:=0) hc hC om_ (ce_at0 c)) (by simp[ids]))) fun o ho=>?_
  rw[← byC_flat] at*
  refine pA_ 6 ?_
  rw[nowL_of hc,hb]
  exact fi_ o ho
theorem flush_g (x:DvR)(D:List Ce)(k:Cnt)(line:Int):Mo Tryz.prog 47 [.pointer (some ⟨x.db,0,none⟩),.int .i64 line] (dvS x D k) (fun _u:Unit=>True) (fun _=> .int .i64 (er2 (inD D.length line))) (fun _=>dvS x (upD D line (fun c=>{c with way:=c.now,sent:=true})) (if inD D.length line=true then {k with b:=IntKind.i64.wrap (k.b+1)} else k)):=by
 intro w hs
 obtain⟨hB,hC⟩:=dvB hs
 refine Ca_ Tryz.func47 rfl Tryz.ntmps47 hs<|pA_ 10 ?_
 refine Le (CV fun w hw=>there_g x.db D.length x.cap _ (ctC k) line 0 0 om_ w hw.at) fun _ _=>LW.re 9 (.int .i64 (er2 (inD D.length line))) rfl (by rw[th_in])<|pA_ 9 ?_
 refine Cd_ rfl (fun h11=>?_) fun h11=>?_
 ·have hb:=er_t h11
  have ho:=in_out hb
  refine pA_ 9 ?_
  rw[upD_out ho,hb]
  exact fi_ () trivial
 ·have hb:=er_f h11
  obtain⟨i,c,rfl,hc⟩:=in_get hb
  have hi:=(List.getElem?_eq_some_iff.1 hc).1
  have hmul:=Nat.mul_le_mul_right 193 (show i+1≤D.length from hi)
  have hc2:(D.set i (Ce.mk c.now c.kept c.now c.sent))[i]? =some (Ce.mk c.now c.kept c.now c.sent):=by rw[List.getElem?_set_self hi]
  refine pA_ 7 ?_
  refine Lv (Ld (v:= .slice (some ⟨x.cb,0,none⟩) D.length x.cap))<|Lv Mv<|Lv (Val.indexAddrN rfl rfl Tryz.underlying115 Tryz.sizeOf126 hi)<|LW.re 18 (.pointer (some ⟨x.cb,i*193,none⟩)) rfl (by simp)<|pA_ 10 ?_
  refine Lv (La (byC c.now.1) (r:=(cx_now (x:=x) hc).choose) (hl:=by simpa using(cx_now (x:=x) hc).choose_spec) (hs:=by rw[byC64];exact Tryz.sizeOf124))<|Lv Nz<|Lv (Fa 128 124)<|LeN (Eff.storeA (cs:=byC c.now.1) (l:=cxC x D) (l':=cxC x (D.set i (Ce.mk c.now c.kept c.now c.sent))) rfl rfl up_ (by have h8:=cx_in (x:=x) hc (c':=(Ce.mk c.now c.kept c.now c.sent)) 128 (byC c.now.1) (ce_way c c.now) (by simp[byC64]);simpa using h8) (by rw[cx_len];simp[byC64];omega) (by rw[byC64];exact Tryz.sizeOf124) (V.byC_one _)) fun _ _=>Lv Nz<|Lv (Fa 192 4)<|LeN (Eff.storeX (v:= .bool true) (l:=cxC x (D.set i (Ce.mk c.now c.kept c.now c.sent))) (l':=cxC x (D.set i (Ce.mk c.now c.kept c.now true))) rfl rfl rfl up_ (by have h8:=cx_in (x:=x) hc2 (c':=(Ce.mk c.now c.kept c.now true)) 192 [.bool true] (ce_sent (Ce.mk c.now c.kept c.now c.sent) true) (by simp);rw[List.set_set] at h8;simpa[V.splice] using h8) (by rw[cx_len];simp;omega) Tryz.sizeOf4) fun _ _=>pA_ 8 ?_
  refine Le (CM ([[(x.db,.cells (dxC x D k).toArray 121 (0,0))]]) fun w hw hs=>addI_c x.db 2 (dxC x D k) 121 k.b 1 w rfl hs) fun _ _=>pA_ 9 ?_
  rw[upD_set hc,hb]
  intro w' hw;exact⟨(),trivial,rfl,by unfold dvS dxC;rw[List.length_set];exact hw.pick pk_⟩
theorem fence_g (x:DvR)(D:List Ce)(k:Cnt)(hD:D.length≤100000):Mo Tryz.prog 48 [.pointer (some ⟨x.db,0,none⟩)] (dvS x D k) (fun _u:Unit=>True) (fun _=> .int .i64 0) (fun _=>dvS x (D.map fenB) {k with c:=IntKind.i64.wrap (k.c+1)}):=by
 intro w hs
 refine Ca_ Tryz.func48 rfl Tryz.ntmps48 hs<|pA_ 21 ?_
 refine Lv (Ld (v:= .slice (some ⟨x.cb,0,none⟩) D.length x.cap))<|pA_ 5 ?_
 refine V.CW.perm (sg':=[[(x.db,.cells (dxC x D k).toArray 121 (0,0))],[(x.cb,.cells (cxC x (fenL D 0)).toArray 126 (0,0))]]) ?_ (by unfold fenL;simp)
 refine loopA (γ:=Nat) (fun j=>[(0,.pointer (some ⟨x.db,0,none⟩)),(11,.int .i64 (D.length:Nat)),(12,.int .i64 (j:Nat))]) (fun j=>[[(x.db,.cells (dxC x D k).toArray 121 (0,0))],[(x.cb,.cells (cxC x (fenL D j)).toArray 126 (0,0))]]) (fun j=>j≤D.length) (fun j=>D.length-j) (0) (Nat.zero_le _) fun j hj=>pA_ 6 ?_
 refine Cd_ rfl (fun h13=>?_) fun h13=>?_
 ·have hi:j<D.length:=by omega
  have hmul:=Nat.mul_le_mul_right 193 (show j+1≤D.length from hi)
  have hfl:=fenL_len D j
  obtain⟨c,hc⟩:∃c,D[j]? =some c:=⟨_,List.getElem?_eq_getElem hi⟩
  have hst:=fenL_step hc
  have hc2:((fenL D j).set j (Ce.mk c.now c.way c.way c.sent))[j]? =some (Ce.mk c.now c.way c.way c.sent):=by rw[List.getElem?_set_self om_]
  refine pA_ 15 ?_
  refine Lv (Ld (v:= .slice (some ⟨x.cb,0,none⟩) D.length x.cap))<|Lv Mv<|Lv (Val.indexAddrN rfl rfl Tryz.underlying115 Tryz.sizeOf126 hi)<|LW.re 20 (.pointer (some ⟨x.cb,j*193,none⟩)) rfl (by simp)<|pA_ 8 ?_
  refine Lv (Ld (v:= .bool c.sent) (hl:=cx_sent (x:=x) (fenL_at hc)))<|Nl<|Ps ?_
  refine Cd_ rfl (fun h24=>?_) fun h24=>?_
  ·have h24:c.sent=true:=h24
   have hfb:fenB c=(Ce.mk c.now c.way c.way false):=by unfold fenB;rw[if_pos h24]
   rw[hfb] at hst
   refine pA_ 6 ?_
   refine Lv (La (byC c.way.1) (r:=(cx_way (x:=x) (fenL_at hc)).choose) (hl:=(cx_way (x:=x) (fenL_at hc)).choose_spec) (hs:=by rw[byC64];exact Tryz.sizeOf124))<|Lv Nz<|Lv (Fa 64 124)<|LeN (Eff.storeA (cs:=byC c.way.1) (l:=cxC x (fenL D j)) (l':=cxC x ((fenL D j).set j (Ce.mk c.now c.way c.way c.sent))) rfl rfl up_ (by have h8:=cx_in (x:=x) (fenL_at hc) (c':=(Ce.mk c.now c.way c.way c.sent)) 64 (byC c.way.1) (ce_kept c c.way) (by simp[byC64]);simpa using h8) (by rw[cx_len];simp[byC64];omega) (by rw[byC64];exact Tryz.sizeOf124) (V.byC_one _)) fun _ _=>Lv Nz<|Lv (Fa 192 4)<|LeN (Eff.storeX (v:= .bool false) (l:=cxC x ((fenL D j).set j (Ce.mk c.now c.way c.way c.sent))) (l':=cxC x ((fenL D j).set j (Ce.mk c.now c.way c.way false))) rfl rfl rfl up_ (by have h8:=cx_in (x:=x) hc2 (c':=(Ce.mk c.now c.way c.way false)) 192 [.bool false] (ce_sent (Ce.mk c.now c.way c.way c.sent) false) (by simp);rw[List.set_set] at h8;simpa[V.splice] using h8) (by rw[cx_len];simp;omega) Tryz.sizeOf4) fun _ _=>pA_ 7 ?_
   rw[hst]
   exact roundA (j+1) om_ om_
  ·have h24:c.sent=false:=h24
   have hfb:fenB c=c:=by unfold fenB;rw[if_neg (by simp[h24])]
   have hss:(fenL D j).set j c=fenL D j:=by
    have h8:=fenL_at hc
    obtain⟨h9,h7⟩:=List.getElem?_eq_some_iff.1 h8
    rw[← h7,List.set_getElem_self]
   rw[hfb,hss] at hst
   refine pA_ 7 ?_
   rw[hst]
   exact roundA (j+1) om_ om_
 ·have hend:fenL D j=D.map fenB:=by unfold fenL;rw[List.take_of_length_le om_,List.drop_eq_nil_iff.2 om_,List.append_nil]
  rw[hend]
  refine pA_ 11 ?_
  refine Le (CM ([[(x.db,.cells (dxC x D k).toArray 121 (0,0))]]) fun w hw hs=>addI_c x.db 3 (dxC x D k) 121 k.c 1 w rfl hs) fun _ _=>pA_ 8 ?_
  refine Rt1 fun w' hw=>?_
  exact⟨(),trivial,rfl,by unfold dvS dxC;rw[List.length_map];exact hw.pick pk_⟩
end
section
attribute [local irreducible] V.CW V.LW V.QW V.RW V.PQ V.Val V.Eff V.Qcall
open V (str byC ownV ownG ownS ownOk)
instance:Cal Tryz.prog 73:=⟨Tryz.call73⟩
def inI (x:Int):List Value:=[.int .i64 x]
theorem inI_len (x:Int):(inI x).length=1:=rfl
def ixI (l:List Int)(x:Int):Int:=if x∈l then(l.idxOf x:Nat) else -1
theorem ixI_yes {l:List Int}{k:Nat}{x y:Int}(hx:l[k]? =some y)(h:x=y)(hn:x∉l.take k):ixI l x=(k:Nat):=by
 subst h
 have hm:x∈l:=List.mem_of_getElem? hx
 unfold ixI
 rw[if_pos hm]
 obtain⟨hk,hv⟩:=List.getElem?_eq_some_iff.1 hx
 have e:l=l.take k++x::l.drop (k+1):=by
  have h8:=List.take_append_drop k l
  rw[List.drop_eq_getElem_cons hk,hv] at h8
  exact h8.symm
 have e2:l.idxOf x=k:=by
  rw[e,List.idxOf_append,if_neg hn,List.idxOf_cons_self,List.length_take]
  omega
 rw[e2]
theorem ixI_no {l:List Int}{x:Int}(h:x∉l):ixI l x= -1:=by unfold ixI;rw[if_neg h]
theorem ixI_neg {l:List Int}{x:Int}:(0≤ixI l x)↔x∈l:=by
 unfold ixI;split
 ·rename_i h;simp[h]
 ·rename_i h;simp[h]
theorem index_g (l:List Int)(p:Option Addr)(c:Nat)(x:Int)(hl:l.length≤100000)(w:World)(h:V.slAt w p 1 inI l):Calls Tryz.prog 73 [.slice p l.length c,.int .i64 x].toArray w fun e w'=>e= .returned (.int .i64 (ixI l x))∧Below w.heap.size w w':=by
 refine Cb_ Tryz.func73 rfl Tryz.ntmps73<|pA_ 14 ?_
 refine loopA (γ:=Nat) (fun k=>[(0,.slice p l.length c),(1,.int .i64 x),(7,.int .i64 (l.length:Nat)),(8,.int .i64 (k:Nat))]) (fun _=>[]) (fun k=>k≤l.length∧x∉l.take k) (fun k=>l.length-k) (0) ⟨Nat.zero_le _,by simp⟩ fun k=>?_
 rintro⟨hk1,hk2⟩
 refine pA_ 6 ?_
 refine Cd_ rfl (fun h9=>?_) fun h9=>?_
 ·have hk9:k<l.length:=by omega
  obtain⟨bb1,o1,y,rfl,hb1,hx1,hr1⟩:=V.slAt_at h rfl (k:=k) hk9
  refine pA_ 16 ?_
  refine Lv (Val.loadO rfl Tryz.isAgg3 hb1 (by simp[ids]) (hr1 k y hx1 0 _ rfl))<|pA_ 3 ?_
  refine Cd_ rfl (fun h16=>?_) fun h16=>?_
  ·have h16:x=y:=h16
   refine pA_ 13 ?_
   rw[ixI_yes hx1 h16 hk2]
   exact fb_
  ·have h16:¬x=y:=h16
   have hk3:x∉l.take (k+1):=by
    rw[List.take_add_one,hx1]
    simp[hk2,h16]
   refine pA_ 7 ?_
   exact roundA (k+1) ⟨by omega,hk3⟩ om_
 ·have hk9:l.length≤k:=by omega
  refine pA_ 12 ?_
  rw[ixI_no (by rw[List.take_of_length_le hk9] at hk2;exact hk2)]
  exact fb_
theorem contains_g (l:List Int)(p:Option Addr)(c:Nat)(x:Int)(hl:l.length≤100000)(w:World)(h:V.slAt w p 1 inI l):Calls Tryz.prog 39 [.slice p l.length c,.int .i64 x].toArray w fun e w'=>e= .returned (.bool (decide (x∈l)))∧Below w.heap.size w w':=by
 refine Cb_ Tryz.func39 rfl Tryz.ntmps39<|pA_ 9 ?_
 refine Le (CV fun w hw=>index_g l p c x hl w (hw.slAt h (by simp[ids]))) fun _ _=>pA_ 6 ?_
 intro w' hw;exact⟨by congr 2;rw[Bool.eq_iff_iff,decide_eq_true_eq,decide_eq_true_eq];exact ixI_neg,hw.below⟩
def putT (b:B64)(at_:Nat)(l:List UInt8):B64:=if h:at_+l.length≤64 then putB b at_ l h else b
theorem putT_of {b:B64}{at_:Nat}{l:List UInt8}(h:at_+l.length≤64):putT b at_ l=putB b at_ l h:=by unfold putT;rw[dif_pos h]
theorem putT_nil (b:B64)(at_:Nat):putT b at_ []=b:=by
 unfold putT
 split
 ·unfold putB;simp
 ·rfl
def stD (D:List Ce)(line at_:Int)(bs:List UInt8):List Ce:=if thB D.length line at_ bs.length=true then upD D line (fun c=>{c with now:=putT c.now at_.toNat bs}) else D
theorem stD_len (D:List Ce)(line at_:Int)(bs:List UInt8):(stD D line at_ bs).length=D.length:=by unfold stD;split;exact upD_len _ _ _;rfl
theorem th_get {D:List Ce}{line at_:Int}{n:Nat}(h:thB D.length line at_ n=true):∃(i a:Nat) (c:Ce),line=(i:Nat)∧at_=(a:Nat)∧D[i]? =some c∧a+n≤64:=by
 unfold thB at h
 simp only[decide_eq_true_eq] at h
 exact⟨line.toNat,at_.toNat,D[line.toNat]'om_,by omega,by omega,by simp,by omega⟩
theorem store_gc (x:DvR)(D:List Ce)(k:Cnt)(line at_:Int)(bs:List UInt8)(p:Option Addr)(cp:Nat)(hl:bs.length≤100000)(w:World)(hs:Sat (dvS x D k) w)(hp:V.slAt w p 1 byE bs)(hpd:0<bs.length→∀b o,p=some ⟨b,o,none⟩→b∉V.ids (dvS x D k)):Calls Tryz.prog 45 [.pointer (some ⟨x.db,0,none⟩),.int .i64 line,.int .i64 at_,.slice p bs.length cp].toArray w fun e w'=>∃_u:Unit,True∧e= .returned (.int .i64 (er2 (thB D.length line at_ bs.length)))∧Hp ⟨w,V.ids ((dvS x D k))⟩ (dvS x (stD D line at_ bs) (if thB D.length line at_ bs.length=true then {k with a:=IntKind.i64.wrap (k.a+1)} else k)) w':=by
 refine Cs_ (dvS x D k) Tryz.func45 rfl Tryz.ntmps45 hs<|pA_ 13 ?_
 refine Le (CV fun w hw=>there_g x.db D.length x.cap _ (ctC k) line at_ bs.length om_ w hw.at) fun _ _=>pA_ 9 ?_
 refine Cd_ rfl (fun h17=>?_) fun h17=>?_
 ·have hb:=er_t h17
  refine pA_ 9 ?_
  have hD:stD D line at_ bs=D:=by unfold stD;rw[if_neg (by simp[hb])]
  rw[hD,hb]
  exact fi_ () trivial
 ·have hb:=er_f h17
  obtain⟨i,a,c,rfl,rfl,hc,h64⟩:=th_get hb
  have hi:=(List.getElem?_eq_some_iff.1 hc).1
  have hmul:=Nat.mul_le_mul_right 193 (show i+1≤D.length from hi)
  refine pA_ 7 ?_
  refine Lv (Ld (v:= .slice (some ⟨x.cb,0,none⟩) D.length x.cap))<|Lv Mv<|Lv (Val.indexAddrN rfl rfl Tryz.underlying115 Tryz.sizeOf126 hi)<|Lv (Fa 0 124)<|Lv Mv<|Lv (Val.sliceArr a 64 rfl Tryz.underlying124 Tryz.sizeOf5 ⟨_,rfl⟩ rfl om_ om_)<|LW.re 27 (.slice (some ⟨x.cb,(if 64=a then i*193+0 else i*193+0+a*1),none⟩) (64-a) (64-a)) rfl (by simp only[Nat.zero_add])<|Lv Mv ?_
  rcases Nat.eq_zero_or_pos bs.length with h0|h0
  ·obtain rfl:=List.length_eq_zero_iff.1 h0
   have hD:stD D ((i:Nat):Int) ((a:Nat):Int) []=D:=by
    unfold stD;rw[if_pos hb,upD_set hc,putT_nil]
    obtain⟨h9,h7⟩:=List.getElem?_eq_some_iff.1 hc
    rw[← h7,List.set_getElem_self]
   rw[hD]
   refine Le (Eff.ofVal (Val.copy0 (sz:=1) rfl rfl Tryz.underlying133 kr_ (Nat.zero_min _))) fun _ _=>pA_ 8 ?_
   refine Le (CM ([[(x.db,.cells (dxC x D k).toArray 121 (0,0))]]) fun w hw hs=>addI_c x.db 1 (dxC x D k) 121 k.a 1 w rfl hs) fun _ _=>pA_ 9 ?_
   rw[hb]
   intro w' hw;exact⟨(),trivial,rfl,by unfold dvS dxC;exact hw.pick pk_⟩
  ·obtain⟨pb,po,hpe,hpr⟩:=sl_range (F:=V.ids (dvS x D k)) byE_len hp h0 (hpd h0)
   subst hpe
   have hD:stD D ((i:Nat):Int) ((a:Nat):Int) bs=D.set i {c with now:=putB c.now a bs h64}:=by
    unfold stD;rw[if_pos hb,upD_set hc,Int.toNat_natCast,putT_of h64]
   rw[hD,if_neg (show ¬64=a by omega)]
   refine Le (Eff.copyT (cs:=byC bs) (gb:=x.cb) (cur:=(cxC x D)) (cells':=(cxC x (D.set i {c with now:=putB c.now a bs h64}))) (m:=bs.length) (sz:=1) rfl rfl Tryz.underlying133 kr_ up_ (by rw[show i*193+0+a*1=i*193+a by omega,← splice_cut _ _ _ (by rw[cx_len,V.byC_len];omega)];exact cx_in hc a (byC bs) (ce_put c a bs h64) (by rw[V.byC_len];omega)) (show min bs.length (64-a)=_ from by omega) (by rw[V.byC_len,Nat.mul_one]) (fun w1 hw1 j u hj=>by rw[Addr.add_mid];exact hpr w1 hw1 j u (by rw[← byC_flat];exact hj)) (by rw[cx_len,V.byC_len];omega) (V.byC_one _)) fun _ _=>pA_ 8 ?_
   refine Le (CM ([[(x.db,.cells (dxC x D k).toArray 121 (0,0))]]) fun w hw hs=>addI_c x.db 1 (dxC x D k) 121 k.a 1 w rfl hs) fun _ _=>pA_ 9 ?_
   rw[hb]
   intro w' hw;exact⟨(),trivial,rfl,by unfold dvS dxC;rw[List.length_set];exact hw.pick pk_⟩
theorem store_g (x:DvR)(D:List Ce)(k:Cnt)(line at_:Int)(bs:List UInt8)(p:Option Addr)(cp:Nat)(hl:bs.length≤100000)(w:World)(hs:Sat (dvS x D k) w)(hp:V.slAt w p 1 byE bs)(hpd:∀b o,p=some ⟨b,o,none⟩→b∉V.ids (dvS x D k)):Calls Tryz.prog 45 [.pointer (some ⟨x.db,0,none⟩),.int .i64 line,.int .i64 at_,.slice p bs.length cp].toArray w fun e w'=>∃_u:Unit,True∧e= .returned (.int .i64 (er2 (thB D.length line at_ bs.length)))∧Hp ⟨w,V.ids ((dvS x D k))⟩ (dvS x (stD D line at_ bs) (if thB D.length line at_ bs.length=true then {k with a:=IntKind.i64.wrap (k.a+1)} else k)) w':=
 store_gc x D k line at_ bs p cp hl w hs hp (fun _=>hpd)
def looseB (c:Ce):Bool:= !decide (c.now=c.kept)
theorem looseB_eq (c:Ce):(!decide (c.now.1=c.kept.1))=looseB c:=by unfold looseB;congr 1;rw[decide_eq_decide];exact⟨fun h=>Subtype.ext h,fun h=>by rw[h]⟩
theorem loose_g (c:Ce):Rz Tryz.prog 38 [.agg (ceC c).toArray] (.bool (looseB c)):=by
 intro w
 refine Cb_ Tryz.func38 rfl Tryz.ntmps38<|Sq<|Rg<|Le XA fun b1 _=>pA_ 6 ?_
 refine Lv (La (byC c.now.1) (r:=byC c.kept.1++(byC c.way.1++[.bool c.sent])) (hl:=by rfl) (hs:=by rw[byC64];exact Tryz.sizeOf124))<|Lv (Fa 64 124)<|Lv (La (byC c.kept.1) (r:=byC c.way.1++[.bool c.sent]) (hl:=by exact ce_at64 c) (hs:=by rw[byC64];exact Tryz.sizeOf124))<|Lv (Val.neBy (a:=c.now.1) (b:=c.kept.1) rfl rfl kr_ Tryz.underlying124 Tryz.underlying5 Tryz.sizeOf5 c.now.2 c.kept.2)<|pA_ 5 ?_
 rw[looseB_eq]
 exact fb_
theorem sat_old {w w':World}{sg sg':V.Sg}(hs:Sat sg w)(hw:Hp ⟨w,[]⟩ sg' w'):Sat sg w':=⟨fun p hp=>(hw.old p.1 (V.lt_of_some (hs.own p hp)) (by simp)).trans (hs.own p hp),hs.nd⟩
end
section
attribute [local irreducible] V.CW V.LW V.QW V.RW V.PQ V.Val V.Eff V.Qcall
open V (str byC ownV ownG ownS ownOk)
instance:Cal Tryz.prog 38:=⟨Tryz.call38⟩
instance:Cal Tryz.prog 39:=⟨Tryz.call39⟩
def cutC (keep:List Int)(i:Nat)(c:Ce):Ce:=⟨if((i:Nat):Int)∈keep then c.now else c.kept,if((i:Nat):Int)∈keep then c.now else c.kept,c.way,false⟩
def cutD (D:List Ce)(keep:List Int):List Ce:=D.mapIdx (cutC keep)
def mixTo {α:Type}(L D:List α)(j:Nat):List α:=L.take j++D.drop j
theorem mix_len {α:Type}{L D:List α}(h:L.length=D.length)(j:Nat):(mixTo L D j).length=D.length:=by unfold mixTo;simp;omega
theorem mix_at {α:Type}{L D:List α}(h:L.length=D.length){j:Nat}{c:α}(hc:D[j]? =some c):(mixTo L D j)[j]? =some c:=by
 have hj:=(List.getElem?_eq_some_iff.1 hc).1
 unfold mixTo
 rw[List.getElem?_append_right (by simp;omega),List.getElem?_drop]
 simp only[List.length_take]
 rw[show j+(j-min j L.length)=j by omega,hc]
theorem mix_step {α:Type}{L D:List α}(h:L.length=D.length){j:Nat}{c c':α}(hc:D[j]? =some c)(hl:L[j]? =some c'):(mixTo L D j).set j c'=mixTo L D (j+1):=by
 have hj:=(List.getElem?_eq_some_iff.1 hc).1
 unfold mixTo
 have hl2:(L.take j).length=j:=by simp;omega
 rw[List.set_append_right _ _ om_,hl2,Nat.sub_self,List.drop_eq_getElem_cons hj,List.set_cons_zero,List.take_add_one,hl]
 simp
theorem cutD_len (D:List Ce)(keep:List Int):(cutD D keep).length=D.length:=by unfold cutD;simp
theorem cutD_at {D:List Ce}{keep:List Int}{j:Nat}{c:Ce}(hc:D[j]? =some c):(cutD D keep)[j]? =some (cutC keep j c):=by unfold cutD;rw[List.getElem?_mapIdx,hc];rfl
def lostTo (D:List Ce)(keep:List Int)(n:Nat):List Int:=((List.range n).filter fun i=>(D[i]?.map fun c=>looseB c&& !decide (((i:Nat):Int)∈keep)).getD false).map fun i=>((i:Nat):Int)
theorem lostTo_succ {D:List Ce}{keep:List Int}{j:Nat}{c:Ce}(hc:D[j]? =some c):lostTo D keep (j+1)=lostTo D keep j++(if(looseB c&& !decide (((j:Nat):Int)∈keep))=true then[((j:Nat):Int)] else[]):=by
 unfold lostTo
 rw[List.range_succ,List.filter_append,List.map_append]
 congr 1
 simp only[List.filter_cons,hc,Option.map_some,Option.getD_some,List.filter_nil]
 split<;>rfl
theorem lostTo_len (D:List Ce)(keep:List Int)(n:Nat):(lostTo D keep n).length≤n:=by unfold lostTo;rw[List.length_map];exact Nat.le_trans (List.length_filter_le _ _) (by simp)
end
section
attribute [local irreducible] V.CW V.LW V.QW V.RW V.PQ V.Val V.Eff V.Qcall
open V (str byC ownV ownG ownS ownOk)
theorem newDev_g (n:Nat)(h1:1≤n)(h2:n≤258)(w:World):Calls Tryz.prog 18 [.int .i64 (n:Nat)].toArray w fun e w'=>∃y:DvR,True∧e= .returned (.tuple #[.pointer (some ⟨y.db,0,none⟩),.int .i64 0])∧Hp ⟨w,[]⟩ (dvS y (List.replicate n ce0) ct0) w':=by
 refine(newDev_c n h1 h2 w).mono fun e w' ⟨p,_,he,hw⟩=>⟨⟨p.1,p.2,[],n⟩,trivial,he,?_⟩
 rw[dv_of,List.length_replicate] at hw
 exact hw
structure Dev where
 D:List Ce
 k:Cnt
def Dev.store (v:Dev)(line at_:Int)(bs:List UInt8):Dev:=⟨stD v.D line at_ bs,if thB v.D.length line at_ bs.length=true then {v.k with a:=IntKind.i64.wrap (v.k.a+1)} else v.k⟩
def Dev.flush (v:Dev)(line:Int):Dev:=⟨upD v.D line (fun c=>{c with way:=c.now,sent:=true}),if inD v.D.length line=true then {v.k with b:=IntKind.i64.wrap (v.k.b+1)} else v.k⟩
def Dev.fence (v:Dev):Dev:=⟨v.D.map fenB,{v.k with c:=IntKind.i64.wrap (v.k.c+1)}⟩
def Dev.cut (v:Dev)(keep:List Int):Dev:=⟨cutD v.D keep,{v.k with e:=IntKind.i64.wrap (v.k.e+1)}⟩
theorem Dev.store_len (v:Dev)(line at_:Int)(bs:List UInt8):(v.store line at_ bs).D.length=v.D.length:=stD_len _ _ _ _
theorem Dev.flush_len (v:Dev)(line:Int):(v.flush line).D.length=v.D.length:=upD_len _ _ _
theorem Dev.fence_len (v:Dev):v.fence.D.length=v.D.length:=List.length_map _
theorem Dev.cut_len (v:Dev)(keep:List Int):(v.cut keep).D.length=v.D.length:=cutD_len _ _
abbrev vS (x:DvR)(v:Dev):Sg:=dvS x v.D v.k
def fmtV (v:Dev):Dev:=((((v.store 0 0 (superL (v.D.length:Nat))).store 1 0 (clockL 0)).flush 0).flush 1).fence
theorem fmtV_len (v:Dev):(fmtV v).D.length=v.D.length:=by unfold fmtV;rw[Dev.fence_len,Dev.flush_len,Dev.flush_len,Dev.store_len,Dev.store_len]
theorem format_g (x:DvR)(v:Dev)(hm:10≤v.D.length∧v.D.length≤258):Mo Tryz.prog 19 [.pointer (some ⟨x.db,0,none⟩)] (vS x v) (fun _u:Unit=>True) (fun _=> .int .i64 0) (fun _=>vS x (fmtV v)):=by
 intro w hs
 refine Ca_ Tryz.func19 rfl Tryz.ntmps19 hs<|Sq<|Rg<|Lv Av<|Nl<|Ps<|Sq<|Sq<|Rg<|Lv Mv<|Lv EP<|Nl<|Ps<|Cf<|Sk<|Ps<|Sq<|Rg<|Lv Mv<|Le (CV fun w hw=>lines_g x.db v.D.length x.cap _ (ctC v.k) w hw.at) fun _ _=>Le (Cn_ (Super_c v.D.length hm)) fun b1 _=>Lv Mv<|Lv Ex<|Lv Ex<|Lv Av<|Lv Av<|Nl<|Ps<|Sq<|Sq<|Rg<|Lv Mv<|Lv Cm<|LW.re 14 (.bool false) rfl (by rfl)<|Nl<|Ps<|Cf<|Sk<|Ps<|Sq<|Rg<|Lv Mv<|Lv Mv<|Le (CM (vS x v) fun w hw hs0=>by have h8:=store_g x v.D v.k 0 0 (superL (v.D.length:Nat)) (some ⟨b1,0,none⟩) 64 (by rw[superL_len];omega) w hs0 (byE_of (hw.own _ (show InS (b1,.cells (byC (superL (v.D.length:Nat))).toArray 185 (0,0)) _ from in_).mem)) (fun b o hb=>by simp only[Option.some.injEq,Addr.mk.injEq] at hb;obtain⟨rfl,_⟩:=hb;exact not_in hw (show Pick (vS x v) _ _ from pk_) (show InS (b1,.cells (byC (superL (v.D.length:Nat))).toArray 185 (0,0)) _ from in_));rw[superL_len] at h8;exact h8) fun _ _=>Nl<|Ps<|Sq<|Rg<|Lv Mv<|Le (Cn_ (Clock_c 0)) fun b2 _=>Le (CM (vS x (v.store 0 0 (superL (v.D.length:Nat)))) fun w hw hs0=>by have h8:=store_g x (v.store 0 0 (superL (v.D.length:Nat))).D (v.store 0 0 (superL (v.D.length:Nat))).k 1 0 (clockL 0) (some ⟨b2,0,none⟩) 64 (by rw[clockL_len];omega) w hs0 (byE_of (hw.own _ (show InS (b2,.cells (byC (clockL 0)).toArray 185 (0,0)) _ from in_).mem)) (fun b o hb=>by simp only[Option.some.injEq,Addr.mk.injEq] at hb;obtain⟨rfl,_⟩:=hb;exact not_in hw (show Pick (vS x (v.store 0 0 (superL (v.D.length:Nat)))) _ _ from pk_) (show InS (b2,.cells (byC (clockL 0)).toArray 185 (0,0)) _ from in_));rw[clockL_len] at h8;exact h8) ?_
 intro _ _
 refine pA_ 5 ?_
 refine Le (Cm_ (flush_g x ((v.store 0 0 (superL (v.D.length:Nat))).store 1 0 (clockL 0)).D ((v.store 0 0 (superL (v.D.length:Nat))).store 1 0 (clockL 0)).k 0)) fun _ _=>pA_ 5 ?_
 refine Le (Cm_ (flush_g x (((v.store 0 0 (superL (v.D.length:Nat))).store 1 0 (clockL 0)).flush 0).D (((v.store 0 0 (superL (v.D.length:Nat))).store 1 0 (clockL 0)).flush 0).k 1)) fun _ _=>pA_ 5 ?_
 refine Le (Cm_ (fence_g x ((((v.store 0 0 (superL (v.D.length:Nat))).store 1 0 (clockL 0)).flush 0).flush 1).D ((((v.store 0 0 (superL (v.D.length:Nat))).store 1 0 (clockL 0)).flush 0).flush 1).k (by rw[Dev.flush_len,Dev.flush_len,Dev.store_len,Dev.store_len];omega))) fun _ _=>pA_ 9 ?_
 exact fi_ () trivial
def openF (D:List Ce):Int×Int:=match D[0]? with
 |none=>(0,3)
 |some c0=>if(isSuperF c0.now).2=false∨(isSuperF c0.now).1≠(D.length:Nat) then(0,3) else match D[1]? with
  |none=>(0,3)
  |some c1=>if(isClockF c1.now).2=false then(0,3) else if 1152921504606846976<(isClockF c1.now).1 then(0,10) else((isClockF c1.now).1,0)
theorem super_ge {b:B64}(h:(isSuperF b).2=true):10≤(isSuperF b).1:=by
 unfold isSuperF at h⊢
 by_cases h1:getN b.1 5 4<10∨258<getN b.1 5 4
 ·rw[if_pos h1] at h;cases h
 ·rw[if_neg h1] at h⊢
  by_cases h2:b.1=superL (IntKind.i64.wrap (getN b.1 5 4))
  ·rw[if_pos h2]
   show(10:Int)≤IntKind.i64.wrap (getN b.1 5 4)
   rw[IntWalk.i64_in _ om_];omega
  ·rw[if_neg h2] at h;cases h
theorem own64B (b:B64)(o:V.OwnO)(ho:ownOk 1 b.1.length (byC b.1) o):∃(p:Option Addr) (cp:Nat),ownV b.1.length o= .slice p 64 cp∧64≤cp∧∀{B:V.Base} {sg r:V.Sg} {w:World},Hp B sg w→Pick [ownG 5 (byC b.1) o] sg r→V.slAt w p 1 byE b.1:=by
 rw[byC_flat] at*
 obtain⟨p,c,h1,h3,h2⟩:=own_slg (e:=5) byE_len b.1 o ho
 have h4:=h3 om_
 rw[b.2] at h1 h4
 exact⟨p,c,by rw[b.2];exact h1,h4,h2⟩
theorem open_g (x:DvR)(v:Dev)(hL:0<v.D.length∧v.D.length≤1000):Rx Tryz.prog 101 [.pointer (some ⟨x.db,0,none⟩)] (vS x v) (.tuple #[.int .u64 (openF v.D).1,.int .i64 (openF v.D).2]):=by
 intro w hs
 obtain⟨hB,hC⟩:=dvB hs
 obtain⟨c0,h0⟩:∃c,v.D[0]? =some c:=⟨v.D[0]'hL.1,by simp⟩
 refine Cb_ Tryz.func101 rfl Tryz.ntmps101<|pA_ 19 ?_
 refine Le (CM [] fun w hw hs0=>load_g x v.D v.k 0 w (sat_old hs hw)) fun o1 ho1=>?_
 rw[show((0:Int))=((0:Nat):Int) from rfl,nowL_of h0,in_of h0] at*
 obtain⟨po1,cpo1,hvo1,hcpo1,hslo1⟩:=own64B c0.now o1 ho1
 refine Lv Mv<|Lv Ex<|LW.re 17 (.slice po1 64 cpo1) rfl hvo1<|pA_ 8 ?_
 refine Le (CV fun w hw=>isSuper_c c0.now po1 cpo1 w (hslo1 hw pk_)) fun _ _=>pA_ 12 ?_
 refine LW.split (d:=25) rfl (fun h25=>?_) (fun h25=>?_)
 ·replace h25:=bT h25
  have h25:(isSuperF c0.now).2=false:=by simpa using h25
  refine pA_ 18 ?_
  have e8:openF v.D=(0,3):=by
   unfold openF
   rw[h0]
   show(if _ then _ else _)=_
   rw[if_pos (.inl (by simpa using h25))]
  rw[e8]
  exact fb_
 ·replace h25:=bF h25
  have h25:(isSuperF c0.now).2=true:=by simpa using h25
  refine pA_ 3 ?_
  refine Le (CV fun w hw=>lines_g x.db v.D.length x.cap _ (ctC v.k) w ((hw.old x.db (V.lt_of_some hB) (by simp[ids])).trans hB)) fun _ _=>pA_ 4 ?_
  refine Cd_ rfl (fun h31=>?_) fun h31=>?_
  ·have h31:(isSuperF c0.now).1≠(v.D.length:Nat):=h31
   refine pA_ 9 ?_
   have e8:openF v.D=(0,3):=by
    unfold openF
    rw[h0]
    show(if _ then _ else _)=_
    rw[if_pos (.inr h31)]
   rw[e8]
   exact fb_
  ·have h30:(isSuperF c0.now).1=(v.D.length:Nat):=h31
   have hge:=super_ge h25
   obtain⟨c1,h1⟩:∃c,v.D[1]? =some c:=⟨v.D[1]'om_,by simp⟩
   refine pA_ 5 ?_
   refine Le (CM [] fun w hw hs0=>load_g x v.D v.k 1 w (sat_old hs hw)) fun o2 ho2=>?_
   rw[show((1:Int))=((1:Nat):Int) from rfl,nowL_of h1,in_of h1] at*
   obtain⟨po2,cpo2,hvo2,hcpo2,hslo2⟩:=own64B c1.now o2 ho2
   refine Lv Mv<|Lv Ex<|LW.re 35 (.slice po2 64 cpo2) rfl hvo2<|pA_ 8 ?_
   refine Le (CV fun w hw=>isClock_c c1.now po2 cpo2 w (hslo2 hw pk_)) fun _ _=>pA_ 14 ?_
   refine Cd_ rfl (fun h43=>?_) fun h43=>?_
   ·have h43:(isClockF c1.now).2=false:=by simpa using h43
    refine pA_ 9 ?_
    have e8:openF v.D=(0,3):=by
     unfold openF
     rw[h0]
     show(if _ then _ else _)=_
     rw[if_neg (by rintro(h|h);exact absurd h (by simp[h25]);exact h h30),h1]
     exact if_pos (by simpa using h43)
    rw[e8]
    exact fb_
   ·have h43:(isClockF c1.now).2=true:=by simpa using h43
    refine pA_ 9 ?_
    refine Cd_ rfl (fun h45=>?_) fun h45=>?_
    ·refine pA_ 9 ?_
     have e8:openF v.D=(0,10):=by
      unfold openF
      rw[h0]
      show(if _ then _ else _)=_
      rw[if_neg (by rintro(h|h);exact absurd h (by simp[h25]);exact h h30),h1]
      show(if _ then _ else _)=_
      rw[if_neg (by simpa using h43),if_pos om_]
     rw[e8]
     exact fb_
    ·refine pA_ 11 ?_
     have e8:openF v.D=((isClockF c1.now).1,0):=by
      unfold openF
      rw[h0]
      show(if _ then _ else _)=_
      rw[if_neg (by rintro(h|h);exact absurd h (by simp[h25]);exact h h30),h1]
      show(if _ then _ else _)=_
      rw[if_neg (by simpa using h43),if_neg om_]
     rw[e8]
     exact fb_
def slabsF (n:Int):Int:=if n<10 then 0 else(min n 258-2)/8
theorem slabs_eq {n:Int}(h:10≤n):IntKind.i64.wrap (((if(258:Int)<n then 258 else n)-2).tdiv 8)=slabsF n:=by
 unfold slabsF
 have hm:(if(258:Int)<n then(258:Int) else n)=min n 258:=by split<;>omega
 rw[hm,if_neg (show ¬n<10 by omega),Int.tdiv_eq_ediv_of_nonneg om_,IntWalk.i64_in _ om_]
theorem slabs_g (n:Int):Rz Tryz.prog 54 [.int .i64 n] (.int .i64 (slabsF n)):=by
 intro w
 refine Cb_ Tryz.func54 rfl Tryz.ntmps54<|pA_ 12 ?_
 refine Cd_ rfl (fun h4=>?_) fun h4=>?_
 ·refine pA_ 8 ?_
  intro w' hw;exact⟨by unfold slabsF;rw[if_pos h4],hw.below⟩
 ·refine pA_ 5 ?_
  refine Lv (Val.minI rfl rfl)<|Lv Ar<|Lv (Val.quo rfl rfl om_)<|pA_ 5 ?_
  rw[slabs_eq om_]
  exact fb_
end
section
attribute [local irreducible] V.CW V.LW V.QW V.RW V.PQ V.Val V.Eff V.Qcall
open V (str byC ownV ownG ownS ownOk)
instance:Cal Tryz.prog 186:=⟨Tryz.call186⟩
instance:Cal Tryz.prog 187:=⟨Tryz.call187⟩
instance:Cal Tryz.prog 225:=⟨Tryz.call225⟩
theorem starts_c (k c:Int):Mz Tryz.prog 186 [.int .i64 k,.int .i64 c] (fun o:V.OwnO=>ownOk 1 (startsF k c).length ((startsF k c).flatMap inI) o) (fun o=>ownV (startsF k c).length o) (fun o=>[ownG 3 ((startsF k c).flatMap inI) o]):=by
 intro w
 refine Cb_ Tryz.func186 rfl Tryz.ntmps186<|pA_ 8 ?_
 refine Le (Cz_ (span_c c)) fun _ _=>pA_ 6 ?_
 refine Le (Cz_ (slab_c k)) fun _ _=>pA_ 9 ?_
 refine LW.split (d:=15) rfl (fun h15=>?_) (fun h15=>?_)
 ·replace h15:=bT h15
  refine pA_ 14 ?_
  have hse:startsF k c=[]:=by unfold startsF;rw[if_pos om_]
  rw[hse]
  intro w' hw;exact⟨none,⟨rfl,rfl⟩,rfl,hw.perm (.refl _)⟩
 ·replace h15:=bF h15
  refine pA_ 5 ?_
  refine Cd_ rfl (fun h18=>?_) fun h18=>?_
  ·refine pA_ 8 ?_
   have hse:startsF k c=[]:=by unfold startsF;rw[if_pos om_]
   rw[hse]
   intro w' hw;exact⟨none,⟨rfl,rfl⟩,rfl,hw.perm (.refl _)⟩
  ·have hsp:spanF c=1∨spanF c=2∨spanF c=4∨spanF c=8:=by rcases spanF_cases c with⟨_,h⟩|⟨_,h⟩|⟨_,h⟩|⟨_,h⟩|⟨_,h⟩<;>omega
   have hsl:0≤slabF k∧slabF k≤258:=by
    refine⟨by omega,?_⟩
    unfold slabF;split<;>omega
   have hse:startsF k c=(List.range (8/spanF c)).map fun i:Nat=>slabF k+(i:Nat)*(spanF c:Nat):=by unfold startsF;rw[if_neg om_]
   refine pA_ 11 ?_
   refine Lv (Val.quo rfl rfl om_)<|LW.re 20 (.int .i64 ((8/spanF c:Nat):Nat)) rfl (by congr 1;rcases hsp with h|h|h|h<;>rw[h]<;>decide)<|pA_ 4 ?_
   refine V.CW.perm (sg':=[ownG 3 ((((List.range 0).map fun i:Nat=>slabF k+(i:Nat)*(spanF c:Nat))).flatMap inI) none]) ?_ (.refl _)
   refine loopA (γ:=Nat×V.OwnO) (fun j=>[(5,.int .i64 (spanF c:Nat)),(6,.int .i64 (slabF k)),(7,ownV j.1 j.2),(20,.int .i64 ((8/spanF c:Nat):Nat)),(21,.int .i64 (j.1:Nat))]) (fun j=>[ownG 3 (((List.range j.1).map fun i:Nat=>slabF k+(i:Nat)*(spanF c:Nat)).flatMap inI) j.2]) (fun j=>j.1≤8/spanF c∧ownOk 1 j.1 (((List.range j.1).map fun i:Nat=>slabF k+(i:Nat)*(spanF c:Nat)).flatMap inI) j.2) (fun j=>8/spanF c-j.1) ((0,none)) ⟨Nat.zero_le _,⟨rfl,rfl⟩⟩ fun j=>?_
   rintro⟨hj1,hj2⟩
   have hd8:8/spanF c≤8:=Nat.div_le_self _ _
   refine pA_ 6 ?_
   refine Cd_ rfl (fun h22=>?_) fun h22=>?_
   ·have hj3:j.1<8/spanF c:=by omega
    refine Sk<|Ps<|Sq<|Bk<|Sq<|Rg<|Lv Mv<|Lv Av<|Nl<|Ps<|Rg<|Lv Mv<|Lv Mv<|Lv Mv<|Lv Mv<|Lv (Val.ar (r:=(j.1:Nat)*(spanF c:Nat)) rfl rfl rfl (IntWalk.i64_in _ (by rcases hsp with h|h|h|h<;>rw[h] at hj3⊢ <;>omega)))<|Lv (Val.ar (r:=(slabF k+(j.1:Nat)*(spanF c:Nat))) rfl rfl rfl (IntWalk.i64_in _ (by rcases hsp with h|h|h|h<;>rw[h] at hj3⊢ <;>omega)))<|Le (Eff.buildSlice (rfl) [_] Tryz.underlying23 Tryz.sizeOf3 (by exact Tryz.zeroValue3) rfl rfl rfl rfl (by rfl)) fun b30 _=>Le (Eff.appendAny (inI (slabF k+(j.1:Nat)*(spanF c:Nat))) (sz:=1) (bytes:=8) (z:= .int .i64 0) (xs:=((List.range j.1).map fun i:Nat=>slabF k+(i:Nat)*(spanF c:Nat)).flatMap inI) (m0:=j.1) (o:=j.2) (m:=1) (pk:=[ownG 3 (((List.range j.1).map fun i:Nat=>slabF k+(i:Nat)*(spanF c:Nat)).flatMap inI) (j.2)]) rfl rfl Tryz.underlying23 kr_ rfl om_ pk_ (by simp) hj2 (by rfl) (fun hm0=>⟨b30,0,rfl,fun w hw=>V.range_of_block (o:=0) (cs:=inI (slabF k+(j.1:Nat)*(spanF c:Nat))) (r:=[]) (hw.own _ (show InS (b30,.cells (inI (slabF k+(j.1:Nat)*(spanF c:Nat))).toArray 3 (0,0)) _ from in_).mem) rfl⟩) (by rfl) om_ (by rcases hsp with h|h|h|h<;>rw[h] at hj3<;>omega)) fun o2 ho2=>Lv Av<|Nl<|Bn<|Ps<|Rg<|Lv Ar<|Lv Mv<|Nl ?_
    rw[← show(((List.range (j.1+1)).map fun i:Nat=>slabF k+(i:Nat)*(spanF c:Nat))).flatMap inI=((List.range j.1).map fun i:Nat=>slabF k+(i:Nat)*(spanF c:Nat)).flatMap inI++inI (slabF k+(j.1:Nat)*(spanF c:Nat)) by rw[List.range_succ,List.map_append,List.flatMap_append];rfl]
    exact roundA ((j.1+1,o2)) ⟨by simp only;omega,by simp only;rw[List.range_succ,List.map_append,List.flatMap_append];exact ho2⟩ (by simp only;omega)
   ·have hj9:j.1=8/spanF c:=by omega
    refine pA_ 13 ?_
    have hsln:(startsF k c).length=j.1:=by rw[hse,List.length_map,List.length_range,hj9]
    rw[hsln,hse,← hj9]
    exact fi_ j.2 hj2
theorem own_slI (l:List Int)(y:V.OwnO)(hy:ownOk 1 l.length (l.flatMap inI) y):∃(p:Option Addr) (c:Nat),ownV l.length y= .slice p l.length c∧∀{B:V.Base} {sg r:V.Sg} {w:World},Hp B sg w→Pick [ownG 3 (l.flatMap inI) y] sg r→V.slAt w p 1 inI l:=by
 obtain⟨p,c,h1,_,h2⟩:=own_slg (e:=3) inI_len l y hy
 exact⟨p,c,h1,h2⟩
theorem home_c (line c:Int):Rz Tryz.prog 145 [.int .i64 line,.int .i64 c] (.bool (homeF line c)):=by
 intro w
 refine Cb_ Tryz.func145 rfl Tryz.ntmps145<|pA_ 8 ?_
 refine Le (Cz_ (slabOf_c line)) fun _ _=>Lv Mv<|Le (Cn_ (starts_c (slabOfF line) c)) fun o ho=>?_
 obtain⟨ps,cs,hvs,hss⟩:=own_slI _ o ho
 have hsl:=starts_len (slabOfF line) c
 refine LW.re 8 (.slice ps (startsF (slabOfF line) c).length cs) rfl hvs<|Lv Mv<|Le (CV fun w hw=>contains_g (startsF (slabOfF line) c) ps cs line om_ w (hss hw pk_)) fun _ _=>pA_ 5 ?_
 exact fb_
abbrev B8:={l:List Bool//l.length=8}
def f8:B8:=⟨List.replicate 8 false,by simp⟩
structure Slb where
 c:Int
 tk:B8
 n:Int
def slC (s:Slb):List Value:= .int .i64 s.c::(s.tk.1.map Value.bool++[.int .i64 s.n])
theorem slC_len (s:Slb):(slC s).length=10:=by unfold slC;simp[s.tk.2]
def setB (t:B8)(k:Nat)(b:Bool):B8:=⟨t.1.set k b,by rw[List.length_set];exact t.2⟩
theorem sl_c (s:Slb):(slC s)[0]? =some (.int .i64 s.c):=rfl
theorem sl_n (s:Slb):(slC s)[9]? =some (.int .i64 s.n):=by
 unfold slC
 rw[List.getElem?_cons_succ,List.getElem?_append_right (by simp[s.tk.2])]
 simp[s.tk.2]
theorem sl_t (s:Slb){k:Nat}{b:Bool}(h:s.tk.1[k]? =some b):(slC s)[1+k]? =some (.bool b):=by
 have hk:=(List.getElem?_eq_some_iff.1 h).1
 unfold slC
 rw[Nat.add_comm,List.getElem?_cons_succ,List.getElem?_append_left (by simpa using hk),List.getElem?_map,h]
 rfl
theorem sl_setc (s:Slb)(c:Int):V.splice (slC s) 0 [.int .i64 c]=slC {s with c:=c}:=rfl
theorem sl_setn (s:Slb)(n:Int):V.splice (slC s) 9 [.int .i64 n]=slC {s with n:=n}:=by
 have h:=V.splice_mid [.int .i64 n] (.int .i64 s.c::s.tk.1.map Value.bool) [.int .i64 s.n] [] rfl
 simp only[List.length_cons,List.length_map,s.tk.2,List.append_nil] at h
 exact h
theorem sl_sett (s:Slb){k:Nat}(hk:k<8)(b:Bool):V.splice (slC s) (1+k) [.bool b]=slC {s with tk:=setB s.tk k b}:=by
 show(slC s).set (1+k) (.bool b)=_
 unfold slC
 rw[Nat.add_comm,List.set_cons_succ,List.set_append_left _ _ (by simp[s.tk.2,hk]),← List.map_set]
 rfl
theorem fl10 {L:List Slb}{i o:Nat}{s:Slb}{v:Value}(hL:L[i]? =some s)(h:(slC s)[o]? =some v):(L.flatMap slC)[i*10+o]? =some v:=by
 obtain⟨r,hr⟩:=V.drop_flatMap slC_len L i s hL
 have h8:=congrArg (fun l=>l[o]?) hr
 simp only[List.getElem?_drop] at h8
 rw[h8,List.getElem?_append_left (List.getElem?_eq_some_iff.1 h).1,h]
theorem st10 {L:List Slb}{i:Nat}{s s':Slb}(hL:L[i]? =some s)(o:Nat)(v:Value)(h:V.splice (slC s) o [v]=slC s')(ho:o+1≤10):(L.flatMap slC).set (i*10+o) v=(L.set i s').flatMap slC:=by
 have h8:=splice_in slC_len hL o [v] h ho
 simpa[V.splice] using h8
abbrev plS (pb sb:Nat)(L:List Slb):Sg:=[[(pb,.cells [.slice (some ⟨sb,0,none⟩) L.length L.length].toArray 194 (0,0))],[(sb,.cells (L.flatMap slC).toArray 197 (0,0))]]
def Slb.take (s:Slb)(c:Int)(k:Nat):Slb:=⟨c,setB s.tk k true,s.n+1⟩
theorem take_c (sb i k:Nat)(c:Int)(L:List Slb)(s:Slb)(hL:L[i]? =some s)(hk:k<8)(hn: -1000≤s.n∧s.n≤1000):Mo Tryz.prog 190 [.pointer (some ⟨sb,i*10,none⟩),.int .i64 c,.int .i64 (k:Nat)] [[(sb,.cells (L.flatMap slC).toArray 197 (0,0))]] (fun _u:Unit=>True) (fun _=> .tuple #[]) (fun _=>[[(sb,.cells ((L.set i (s.take c k)).flatMap slC).toArray 197 (0,0))]]):=by
 intro w hs
 have hi:=(List.getElem?_eq_some_iff.1 hL).1
 have hmul:=Nat.mul_le_mul_right 10 (show i+1≤L.length from hi)
 have h1:(L.set i ({s with c:=c}:Slb))[i]? =some ({s with c:=c}:Slb):=List.getElem?_set_self hi
 have h2:(L.set i ({s with c:=c,tk:=setB s.tk k true}:Slb))[i]? =some ({s with c:=c,tk:=setB s.tk k true}:Slb):=List.getElem?_set_self hi
 refine Ca_ Tryz.func190 rfl Tryz.ntmps190 hs<|pA_ 6 ?_
 refine LeN (Eff.storeX (v:= .int .i64 c) (l:=L.flatMap slC) (l':=(L.set i ({s with c:=c}:Slb)).flatMap slC) rfl rfl rfl up_ (by have h8:=st10 hL (s':=({s with c:=c}:Slb)) (0) (.int .i64 c) (sl_setc s c) om_;simpa[Nat.add_assoc] using h8) (by rw[V.flatMap_len slC_len];simp;omega) Tryz.sizeOf3) fun _ _=>pA_ 8 ?_
 refine Lv (Val.indexAddrA (i:=k) rfl rfl Tryz.underlying195 Tryz.sizeOf4 hk)<|LeN (Eff.storeX (v:= .bool true) (l:=(L.set i ({s with c:=c}:Slb)).flatMap slC) (l':=(L.set i ({s with c:=c,tk:=setB s.tk k true}:Slb)).flatMap slC) rfl rfl rfl up_ (by have h8:=st10 h1 (s':=({s with c:=c,tk:=setB s.tk k true}:Slb)) (1+k) (.bool true) (sl_sett ({s with c:=c}:Slb) hk true) om_;rw[List.set_set] at h8;simpa[Nat.add_assoc] using h8) (by rw[V.flatMap_len slC_len];simp;omega) Tryz.sizeOf4) fun _ _=>pA_ 6 ?_
 refine Lv (Ld (v:= .int .i64 s.n) (hl:=fl10 h2 (sl_n _)))<|pA_ 3 ?_
 refine LeN (Eff.storeX (v:= .int .i64 (s.n+1)) (l:=(L.set i ({s with c:=c,tk:=setB s.tk k true}:Slb)).flatMap slC) (l':=(L.set i (s.take c k)).flatMap slC) rfl rfl rfl up_ (by have h8:=st10 h2 (s':=(s.take c k)) (9) (.int .i64 (s.n+1)) (sl_setn ({s with c:=c,tk:=setB s.tk k true}:Slb) (s.n+1)) om_;rw[List.set_set] at h8;simpa[Nat.add_assoc] using h8) (by rw[V.flatMap_len slC_len];simp;omega) Tryz.sizeOf3) ?_
 intro _ _
 refine Nl<|PQ.end0 rfl ?_
 exact fi_ () trivial
end
section
attribute [local irreducible] V.CW V.LW V.QW V.RW V.PQ V.Val V.Eff V.Qcall
open V (str byC ownV ownG ownS ownOk)
instance:Cal Tryz.prog 145:=⟨Tryz.call145⟩
instance:Cal Tryz.prog 189:=⟨Tryz.call189⟩
instance:Cal Tryz.prog 190:=⟨Tryz.call190⟩
def slOk (s:Slb):Prop:=s.n=(s.tk.1.count true:Nat)∧((s.c= -1∧s.n=0)∨(0≤s.c∧s.c≤3))
def plOk (L:List Slb):Prop:=(∀s∈L,slOk s)∧L.length≤32
theorem slOk.bnd {s:Slb}(h:slOk s): -1000≤s.n∧s.n≤1000:=by
 have h1:=List.count_le_length (a:=true) (l:=s.tk.1)
 have h2:=s.tk.2
 have h3:=h.1
 omega
theorem count_setB {l:List Bool}{k:Nat}(b:Bool)(h:l[k]? =some (!b)):((l.set k b).count true:Int)=(l.count true:Int)+(if b=true then 1 else -1):=by
 obtain⟨hk,hv⟩:=List.getElem?_eq_some_iff.1 h
 rw[List.count_set hk,hv]
 cases b
 ·have hc:0<l.count true:=List.count_pos_iff.2 (by have:=List.getElem_mem hk;rw[hv] at this;exact this)
  simp;omega
 ·simp
theorem tk_get' (s:Slb){k:Nat}(h:k<8):∃b,s.tk.1[k]? =some b:=⟨s.tk.1[k]'(by rw[s.tk.2];exact h),by simp⟩
theorem Slb.take_ok {s:Slb}{c:Int}{k:Nat}(h:slOk s)(hc:0≤c∧c≤3)(hk:s.tk.1[k]? =some false):slOk (s.take c k):=by
 refine⟨?_,.inr hc⟩
 show s.n+1=((s.tk.1.set k true).count true:Int)
 rw[count_setB true hk,h.1];rfl
def Slb.give (s:Slb)(k:Nat):Slb:=⟨if s.n-1=0 then -1 else s.c,setB s.tk k false,s.n-1⟩
theorem Slb.give_ok {s:Slb}{k:Nat}(h:slOk s)(hk:s.tk.1[k]? =some true):slOk (s.give k):=by
 refine⟨?_,?_⟩
 ·show s.n-1=((s.tk.1.set k false).count true:Int)
  rw[count_setB false hk,h.1];rfl
 ·by_cases e:s.n-1=0
  ·left
   exact⟨if_pos e,e⟩
  ·right
   have hp:0<s.n:=by
    have h3:0<s.tk.1.count true:=List.count_pos_iff.2 (List.mem_of_getElem? hk)
    have h4:=h.1
    omega
   have h5:0≤s.c∧s.c≤3:=by rcases h.2 with h2|h2<;>omega
   show 0≤(if s.n-1=0 then(-1:Int) else s.c)∧(if s.n-1=0 then(-1:Int) else s.c)≤3
   rw[if_neg e];exact h5
theorem slOk.none {s:Slb}(h:slOk s)(hc:s.c= -1){k:Nat}(hk:k<8):s.tk.1[k]? =some false:=by
 obtain⟨b,hb⟩:=tk_get' s hk
 cases b with
 |false=>exact hb
 |true=>
  exfalso
  have h3:0<s.tk.1.count true:=List.count_pos_iff.2 (List.mem_of_getElem? hb)
  have h4:=h.1
  rcases h.2 with h2|h2<;>omega
theorem plOk.set {L:List Slb}{i:Nat}{s:Slb}(h:plOk L)(hs:slOk s):plOk (L.set i s):=⟨fun x hx=>by
 rcases List.mem_or_eq_of_mem_set hx with hx|rfl
 ·exact h.1 x hx
 ·exact hs,by rw[List.length_set];exact h.2⟩
theorem plOk.at {L:List Slb}{i:Nat}{s:Slb}(h:plOk L)(hL:L[i]? =some s):slOk s:=h.1 s (List.mem_of_getElem? hL)
theorem tk_get (s:Slb){k:Nat}(h:k<8):∃b,s.tk.1[k]? =some b:=⟨s.tk.1[k]'(by rw[s.tk.2];exact h),by simp⟩
theorem starts_get {i c line:Int}{n:Nat}(h:ixI (startsF i c) line=n):(startsF i c)[n]? =some line∧n<8∧0≤slabF i∧spanF c≠0:=by
 unfold ixI at h
 have hl:=starts_len i c
 split at h
 ·rename_i hm
  have hlt:=List.idxOf_lt_length_iff.2 hm
  have hn:(startsF i c).idxOf line=n:=by omega
  rw[hn] at hlt
  refine⟨?_,by omega,?_⟩
  ·rw[List.getElem?_eq_getElem hlt]
   congr 1
   have:=List.getElem_idxOf (x:=line) (xs:=startsF i c) (by rw[hn];exact hlt)
   simpa[hn] using this
  ·by_cases e:spanF c=0∨slabF i<0
   ·unfold startsF at hm;rw[if_pos e] at hm;cases hm
   ·omega
 ·omega
theorem slabOf_nn {line:Int}(h:0≤slabF (slabOfF line)):0≤slabOfF line∧slabOfF line<32:=by
 unfold slabF at h
 split at h
 ·omega
 ·omega
theorem home_get {line c:Int}(h:homeF line c=true):∃k:Nat,ixI (startsF (slabOfF line) c) line=k∧k<8∧0≤slabOfF line∧0≤c∧c≤3:=by
 unfold homeF at h
 have hm:line∈startsF (slabOfF line) c:=by simpa using h
 have h1:=(ixI_neg (l:=startsF (slabOfF line) c) (x:=line)).2 hm
 refine⟨(ixI (startsF (slabOfF line) c) line).toNat,by omega,?_⟩
 obtain⟨_,h3,h4,h5⟩:=starts_get (n:=(ixI (startsF (slabOfF line) c) line).toNat) (i:=slabOfF line) (c:=c) (line:=line) om_
 have h6:=slabOf_nn h4
 refine⟨h3,h6.1,?_⟩
 rcases spanF_cases c with⟨a,_⟩|⟨a,_⟩|⟨a,_⟩|⟨a,_⟩|⟨a,e⟩<;>first|omega|exact absurd e h5
theorem all_c (pb sb:Nat)(L:List Slb)(w:World)(hB:w.heap[pb]? =some (.cells [.slice (some ⟨sb,0,none⟩) L.length L.length].toArray 194 (0,0))):Calls Tryz.prog 189 [.pointer (some ⟨pb,0,none⟩)].toArray w fun e w'=>e= .returned (.slice (some ⟨sb,0,none⟩) L.length L.length)∧Below w.heap.size w w':=by
 refine Cb_ Tryz.func189 rfl Tryz.ntmps189<|pA_ 20 ?_
 refine Lv (Val.loadO rfl Tryz.isAgg192 (V.lt_of_some hB) (by simp[ids]) (V.cell_of_block hB rfl))<|pA_ 5 ?_
 exact fb_
def markF (L:List Slb)(line c:Int):List Slb×Int:=if homeF line c=false∨(L.length:Int)≤slabOfF line then(L,1) else match L[(slabOfF line).toNat]? with
 |none=>(L,1)
 |some s=>if(s.c≠ -1∧s.c≠c)∨s.tk.1[(ixI (startsF (slabOfF line) c) line).toNat]? =some true then(L,7) else(L.set (slabOfF line).toNat (s.take c (ixI (startsF (slabOfF line) c) line).toNat),0)
theorem markF_ok {L:List Slb}{line c:Int}(h:plOk L):plOk (markF L line c).1:=by
 unfold markF
 split
 ·exact h
 ·rename_i h1
  split
  ·exact h
  ·rename_i s hs
   split
   ·exact h
   ·rename_i h2
    have h3:homeF line c=true:=by
     cases e:homeF line c with
     |true=>rfl
     |false=>exact absurd (.inl e) h1
    obtain⟨k,hk,hk8,_,hc⟩:=home_get h3
    refine h.set (Slb.take_ok (h.at hs) hc ?_)
    rw[hk,Int.toNat_natCast]
    obtain⟨b,hb⟩:=tk_get s hk8
    cases b with
    |false=>exact hb
    |true=>exact absurd (.inr (by rw[hk,Int.toNat_natCast];exact hb)) h2
theorem mark_c (pb sb:Nat)(L:List Slb)(line c:Int)(hL:plOk L):Mo Tryz.prog 150 [.pointer (some ⟨pb,0,none⟩),.int .i64 line,.int .i64 c] (plS pb sb L) (fun _u:Unit=>True) (fun _=> .int .i64 (markF L line c).2) (fun _=>plS pb sb (markF L line c).1):=by
 intro w hs
 refine Ca_ Tryz.func150 rfl Tryz.ntmps150 hs<|pA_ 8 ?_
 refine Le (Cz_ (slabOf_c line)) fun _ _=>Lv Av<|LW.re 7 (.int .i64 (slabOfF line)) rfl rfl<|pA_ 7 ?_
 refine Le (Cz_ (home_c line c)) fun _ _=>Lv Nt<|Lv Mv ?_
 refine LW.split (d:=16) rfl (fun h16=>?_) (fun h16=>?_)
 ·replace h16:=bT h16
  have h16:homeF line c=false:=by simpa using h16
  refine pA_ 17 ?_
  have e8:markF L line c=(L,1):=by unfold markF;rw[if_pos (.inl (by simpa using h16))]
  rw[e8]
  exact fi_ () trivial
 ·replace h16:=bF h16
  have h16:homeF line c=true:=by simpa using h16
  have hh:homeF line c=true:=h16
  obtain⟨kk,hkk,hk8,hi0,hc03⟩:=home_get hh
  obtain⟨i,hi⟩:∃i:Nat,slabOfF line=i:=⟨(slabOfF line).toNat,by omega⟩
  refine Lv Mv<|Lv Mv<|Le (CV fun w hw=>all_c pb sb L w hw.at) fun _ _=>pA_ 5 ?_
  refine Cd_ rfl (fun h22=>?_) fun h22=>?_
  ·refine pA_ 8 ?_
   have e8:markF L line c=(L,1):=by unfold markF;rw[if_pos (.inr om_)]
   rw[e8]
   exact fi_ () trivial
  ·have hil:i<L.length:=by omega
   obtain⟨s,hLi⟩:∃s,L[i]? =some s:=⟨L[i],by simp⟩
   obtain⟨b,hb⟩:=tk_get s hk8
   refine pA_ 7 ?_
   refine Lv (Ld (v:= .slice (some ⟨sb,0,none⟩) L.length L.length))<|Lv Mv<|LW.re 27 (.int .i64 (i:Nat)) rfl (by rw[hi])<|Lv (Val.indexAddrN (i:=i) rfl rfl Tryz.underlying192 Tryz.sizeOf197 hil)<|LW.re 28 (.pointer (some ⟨sb,i*10,none⟩)) rfl (by simp)<|pA_ 7 ?_
   refine Le (Cn_ (starts_c (slabOfF line) c)) fun o ho=>?_
   obtain⟨ps,cs,hvs,hss⟩:=own_slI _ o ho
   have hsl:=starts_len (slabOfF line) c
   refine LW.re 31 (.slice ps (startsF (slabOfF line) c).length cs) rfl hvs<|Lv Mv<|Le (CV fun w hw=>index_g (startsF (slabOfF line) c) ps cs line om_ w (hss hw pk_)) fun _ _=>LW.re 33 (.int .i64 (kk:Nat)) rfl (by rw[hkk])<|pA_ 9 ?_
   refine Lv (Ld (v:= .int .i64 s.c) (hl:=fl10 hLi (sl_c s)))<|Lv Cm<|Lv Mv ?_
   refine LW.split (d:=39) rfl (fun h39=>?_) (fun h39=>?_)
   ·replace h39:=bT h39
    refine pA_ 3 ?_
    refine Lv (Ld (v:= .int .i64 s.c) (hl:=fl10 hLi (sl_c s)))<|pA_ 4 ?_
    refine LW.split (d:=47) rfl (fun h47=>?_) (fun h47=>?_)
    ·replace h47:=bT h47
     refine pA_ 18 ?_
     have hna:¬(homeF line c=false∨(L.length:Int)≤slabOfF line):=by rintro(h|h);rw[hh] at h;cases h;omega
     have e8:markF L line c=(L,7):=by
      unfold markF
      rw[if_neg hna,hi,Int.toNat_natCast,hLi]
      refine if_pos ?_
      left;exact⟨h39,h47⟩
     rw[e8]
     exact fi_ () trivial
    ·replace h47:=bF h47
     refine pA_ 4 ?_
     refine Lv (Val.indexAddrA (i:=kk) rfl rfl Tryz.underlying195 Tryz.sizeOf4 hk8)<|Lv (Ld (v:= .bool b) (hl:=by rw[Nat.mul_one,Nat.add_assoc];exact fl10 hLi (sl_t s hb)))<|pA_ 3 ?_
     refine Cd_ rfl (fun h54=>?_) fun h54=>?_
     ·refine pA_ 8 ?_
      have hna:¬(homeF line c=false∨(L.length:Int)≤slabOfF line):=by rintro(h|h);rw[hh] at h;cases h;omega
      have e8:markF L line c=(L,7):=by
       unfold markF
       rw[if_neg hna,hi,Int.toNat_natCast,hLi]
       refine if_pos ?_
       right;rw[← hi,hkk,Int.toNat_natCast,hb];exact congrArg some h54
      rw[e8]
      exact fi_ () trivial
     ·refine pA_ 7 ?_
      refine Le (Cm_ (take_c sb i kk c L s hLi hk8 (hL.at hLi).bnd)) fun _ _=>pA_ 9 ?_
      have hna:¬(homeF line c=false∨(L.length:Int)≤slabOfF line):=by rintro(h|h);rw[hh] at h;cases h;omega
      have e8:markF L line c=(L.set i (s.take c kk),0):=by
       unfold markF
       rw[if_neg hna,hi,Int.toNat_natCast,hLi]
       show(if _ then _ else _)=_
       rw[← hi,hkk,Int.toNat_natCast,if_neg]
       rintro(⟨h1,h2⟩|h1)
       ·first|exact h1 h39|exact h2 h47|omega
       ·rw[hb,Option.some.injEq] at h1;rw[h1] at h54;cases h54
      rw[e8]
      intro w' hw;exact⟨(),trivial,rfl,by unfold plS;rw[List.length_set];exact hw.pick pk_⟩
   ·replace h39:=bF h39
    refine pA_ 12 ?_
    refine Lv (Val.indexAddrA (i:=kk) rfl rfl Tryz.underlying195 Tryz.sizeOf4 hk8)<|Lv (Ld (v:= .bool b) (hl:=by rw[Nat.mul_one,Nat.add_assoc];exact fl10 hLi (sl_t s hb)))<|pA_ 3 ?_
    refine Cd_ rfl (fun h54=>?_) fun h54=>?_
    ·refine pA_ 8 ?_
     have hna:¬(homeF line c=false∨(L.length:Int)≤slabOfF line):=by rintro(h|h);rw[hh] at h;cases h;omega
     have e8:markF L line c=(L,7):=by
      unfold markF
      rw[if_neg hna,hi,Int.toNat_natCast,hLi]
      refine if_pos ?_
      right;rw[← hi,hkk,Int.toNat_natCast,hb];exact congrArg some h54
     rw[e8]
     exact fi_ () trivial
    ·refine pA_ 7 ?_
     refine Le (Cm_ (take_c sb i kk c L s hLi hk8 (hL.at hLi).bnd)) fun _ _=>pA_ 9 ?_
     have hna:¬(homeF line c=false∨(L.length:Int)≤slabOfF line):=by rintro(h|h);rw[hh] at h;cases h;omega
     have e8:markF L line c=(L.set i (s.take c kk),0):=by
      unfold markF
      rw[if_neg hna,hi,Int.toNat_natCast,hLi]
      show(if _ then _ else _)=_
      rw[← hi,hkk,Int.toNat_natCast,if_neg]
      rintro(⟨h1,h2⟩|h1)
      ·first|exact h1 h39|exact h2 h47|omega
      ·rw[hb,Option.some.injEq] at h1;rw[h1] at h54;cases h54
     rw[e8]
     intro w' hw;exact⟨(),trivial,rfl,by unfold plS;rw[List.length_set];exact hw.pick pk_⟩
end
section
attribute [local irreducible] V.CW V.LW V.QW V.RW V.PQ V.Val V.Eff V.Qcall
open V (str byC ownV ownG ownS ownOk)
instance:Cal Tryz.prog 268:=⟨Tryz.call268⟩
def freeFrom (s:Slb)(m:Nat):Nat→Nat→Int
 |0,_=> -1
 |f+1,k=>if k<m then(if s.tk.1[k]? =some true then freeFrom s m f (k+1) else(k:Nat)) else -1
def freeF (s:Slb):Int:=freeFrom s (8/spanF s.c) 9 0
theorem freeFrom_yes {s:Slb}{m f k:Nat}(hk:k<m)(h:s.tk.1[k]? =some false):freeFrom s m (f+1) k=(k:Nat):=by unfold freeFrom;rw[if_pos hk,h,if_neg (by simp)]
theorem freeFrom_no {s:Slb}{m f k:Nat}(hk:k<m)(h:s.tk.1[k]? =some true):freeFrom s m (f+1) k=freeFrom s m f (k+1):=by rw[freeFrom,if_pos hk,if_pos h]
theorem freeFrom_end {s:Slb}{m f k:Nat}(hk:m≤k):freeFrom s m (f+1) k= -1:=by unfold freeFrom;rw[if_neg om_]
theorem freeFrom_get {s:Slb}{m:Nat}(hm:m≤8):∀{f k:Nat},freeFrom s m f k≠ -1→∃j:Nat,freeFrom s m f k=(j:Nat)∧j<m∧s.tk.1[j]? =some false
 |0,k,h=>absurd rfl h
 |f+1,k,h=>by
  unfold freeFrom at h⊢
  split
  ·rename_i hk
   rw[if_pos hk] at h
   split
   ·rename_i ht
    rw[if_pos ht] at h
    exact freeFrom_get hm h
   ·rename_i ht
    obtain⟨b,hb⟩:=tk_get s (show k<8 by omega)
    refine⟨k,rfl,hk,?_⟩
    cases b with
    |false=>exact hb
    |true=>exact absurd hb ht
  ·rename_i hk
   rw[if_neg hk] at h
   exact absurd rfl h
theorem free_c (sb i:Nat)(L:List Slb)(s:Slb)(hLi:L[i]? =some s)(hsp:spanF s.c≠0):Rx Tryz.prog 268 [.pointer (some ⟨sb,i*10,none⟩)] [[(sb,.cells (L.flatMap slC).toArray 197 (0,0))]] (.int .i64 (freeF s)):=by
 intro w hs
 have hs4:spanF s.c=1∨spanF s.c=2∨spanF s.c=4∨spanF s.c=8:=by rcases spanF_cases s.c with⟨_,h⟩|⟨_,h⟩|⟨_,h⟩|⟨_,h⟩|⟨_,h⟩<;>omega
 have hd8:8/spanF s.c≤8:=Nat.div_le_self _ _
 refine Ca_ Tryz.func268 rfl Tryz.ntmps268 hs<|pA_ 11 ?_
 refine Lv (Ld (v:= .int .i64 s.c) (hl:=fl10 hLi (sl_c s)))<|Le (Cz_ (span_c s.c)) fun _ _=>Lv (Val.quo rfl rfl om_)<|LW.re 9 (.int .i64 ((8/spanF s.c:Nat):Nat)) rfl (by congr 1;rcases hs4 with h|h|h|h<;>rw[h]<;>decide)<|pA_ 4 ?_
 refine loopA (γ:=Nat) (fun k=>[(0,.pointer (some ⟨sb,i*10,none⟩)),(9,.int .i64 ((8/spanF s.c:Nat):Nat)),(10,.int .i64 (k:Nat))]) (fun _=>[[(sb,.cells (L.flatMap slC).toArray 197 (0,0))]]) (fun k=>k≤8/spanF s.c∧freeF s=freeFrom s (8/spanF s.c) (9-k) k) (fun k=>8/spanF s.c-k) (0) ⟨Nat.zero_le _,rfl⟩ fun k=>?_
 rintro⟨hk1,hk2⟩
 rw[show 9-k=(8-k)+1 by omega] at hk2
 refine pA_ 6 ?_
 refine Cd_ rfl (fun h11=>?_) fun h11=>?_
 ·have hk3:k<8/spanF s.c:=by omega
  obtain⟨b,hb⟩:=tk_get s (show k<8 by omega)
  refine pA_ 16 ?_
  refine Lv (Val.indexAddrA (i:=k) rfl rfl Tryz.underlying195 Tryz.sizeOf4 om_)<|Lv (Ld (v:= .bool b) (hl:=by rw[Nat.mul_one,Nat.add_assoc];exact fl10 hLi (sl_t s hb)))<|pA_ 3 ?_
  refine Cd_ rfl (fun h19=>?_) fun h19=>?_
  ·have h19:b=false:=by simpa using h19
   subst h19
   refine pA_ 13 ?_
   rw[hk2,freeFrom_yes hk3 hb]
   exact fr_ hs
  ·have h19:b=true:=by simpa using h19
   subst h19
   refine pA_ 7 ?_
   exact roundA (k+1) ⟨by omega,by rw[hk2,freeFrom_no om_ hb];congr 1;omega⟩ om_
 ·refine pA_ 12 ?_
  rw[hk2,freeFrom_end om_]
  exact fr_ hs
def find1 (c:Int):List Slb→Nat→Option (Nat×Nat)
 |[],_=>none
 |s::r,i=>if s.c=c∧freeF s≠ -1 then some (i,(freeF s).toNat) else find1 c r (i+1)
def find2:List Slb→Nat→Option (Nat×Nat)
 |[],_=>none
 |s::r,i=>if s.c= -1 then some (i,0) else find2 r (i+1)
def findF (L:List Slb)(c:Int):Option (Nat×Nat):=(find1 c L 0).or (find2 L 0)
theorem drop_cons {α:Type}{L:List α}{i:Nat}{s:α}(h:L[i]? =some s):L.drop i=s::L.drop (i+1):=by
 obtain⟨hi,hv⟩:=List.getElem?_eq_some_iff.1 h
 rw[List.drop_eq_getElem_cons hi,hv]
def findV (o:Option (Nat×Nat)):Value:=match o with
 |none=> .tuple #[.int .i64 0,.int .i64 0,.bool false]
 |some (i,k)=> .tuple #[.int .i64 (i:Nat),.int .i64 (k:Nat),.bool true]
theorem find1_get {c:Int}:∀{L:List Slb} {i a k:Nat},find1 c L i=some (a,k)→∃s,L[a-i]? =some s∧i≤a∧s.c=c∧freeF s=(k:Nat)
 |s::r,i,a,k,h=>by
  unfold find1 at h
  split at h
  ·rename_i hc
   simp only[Option.some.injEq,Prod.mk.injEq] at h
   obtain⟨rfl,rfl⟩:=h
   obtain⟨j,hj,_⟩:=freeFrom_get (Nat.div_le_self 8 (spanF s.c)) (s:=s) (f:=9) (k:=0) hc.2
   have hj2:freeF s=(j:Nat):=hj
   exact⟨s,by simp,Nat.le_refl _,hc.1,by rw[hj2];rfl⟩
  ·obtain⟨s2,h1,h2,h3⟩:=find1_get h
   refine⟨s2,?_,by omega,h3⟩
   rw[show a-i=(a-(i+1))+1 by omega,List.getElem?_cons_succ]
   exact h1
theorem find2_get:∀{L:List Slb} {i a k:Nat},find2 L i=some (a,k)→∃s,L[a-i]? =some s∧i≤a∧s.c= -1∧k=0
 |s::r,i,a,k,h=>by
  unfold find2 at h
  split at h
  ·rename_i hc
   simp only[Option.some.injEq,Prod.mk.injEq] at h
   obtain⟨rfl,rfl⟩:=h
   exact⟨s,by simp,Nat.le_refl _,hc,rfl⟩
  ·obtain⟨s2,h1,h2,h3⟩:=find2_get h
   refine⟨s2,?_,by omega,h3⟩
   rw[show a-i=(a-(i+1))+1 by omega,List.getElem?_cons_succ]
   exact h1
theorem find_c (pb sb:Nat)(L:List Slb)(c:Int)(hL:plOk L)(hsp:spanF c≠0):Rx Tryz.prog 246 [.pointer (some ⟨pb,0,none⟩),.int .i64 c] (plS pb sb L) (findV (findF L c)):=by
 intro w hs
 have hl32:=hL.2
 refine Ca_ Tryz.func246 rfl Tryz.ntmps246 hs<|pA_ 11 ?_
 refine Le (CV fun w hw=>all_c pb sb L w hw.at) fun _ _=>pA_ 5 ?_
 refine loopA (γ:=Nat) (fun k=>[(0,.pointer (some ⟨pb,0,none⟩)),(1,.int .i64 c),(13,.int .i64 (L.length:Nat)),(14,.int .i64 (k:Nat))]) (fun _=>(plS pb sb L)) (fun k=>k≤L.length∧find1 c L 0=find1 c (L.drop k) k) (fun k=>L.length-k) (0) ⟨Nat.zero_le _,rfl⟩ fun k=>?_
 rintro⟨hk1,hk2⟩
 refine pA_ 6 ?_
 refine Cd_ rfl (fun h15=>?_) fun h15=>?_
 ·have hk3:k<L.length:=by omega
  obtain⟨s,hLi⟩:∃s,L[k]? =some s:=⟨L[k],by simp⟩
  have hdr:=drop_cons hLi
  refine pA_ 15 ?_
  refine Lv (Ld (v:= .slice (some ⟨sb,0,none⟩) L.length L.length))<|Lv Mv<|Lv (Val.indexAddrN (i:=k) rfl rfl Tryz.underlying192 Tryz.sizeOf197 hk3)<|LW.re 22 (.pointer (some ⟨sb,k*10,none⟩)) rfl (by simp)<|pA_ 8 ?_
  refine Lv (Ld (v:= .int .i64 s.c) (hl:=fl10 hLi (sl_c s)))<|pA_ 4 ?_
  refine Cd_ rfl (fun h28=>?_) fun h28=>?_
  ·refine pA_ 3 ?_
   refine Le (Cr_ (free_c sb k L s hLi (by rw[show s.c=c from h28];exact hsp))) fun _ _=>pA_ 9 ?_
   refine Cd_ rfl (fun h32=>?_) fun h32=>?_
   ·obtain⟨j,hj,_⟩:=freeFrom_get (Nat.div_le_self 8 (spanF s.c)) (s:=s) (f:=9) (k:=0) h32
    have hj2:freeF s=(j:Nat):=hj
    refine pA_ 15 ?_
    refine Rt3 ?_
    have e8:findF L c=some (k,j):=by unfold findF;rw[hk2,hdr,find1,if_pos ⟨h28,h32⟩,hj2];rfl
    rw[e8]
    intro w' hw;exact⟨by rw[hj2];rfl,hw.ro pk_ hs⟩
   ·refine pA_ 7 ?_
    exact roundA (k+1) ⟨by omega,by rw[hk2,hdr,find1,if_neg (by rintro⟨h1,h2⟩;first|exact h28 h1|exact h2 h32)]⟩ om_
  ·refine pA_ 7 ?_
   exact roundA (k+1) ⟨by omega,by rw[hk2,hdr,find1,if_neg (by rintro⟨h1,h2⟩;first|exact h28 h1|exact h2 h32)]⟩ om_
 ·have hn1:find1 c L 0=none:=by rw[hk2,List.drop_eq_nil_iff.2 om_];rfl
  clear hk1 hk2
  refine pA_ 9 ?_
  refine Le (CV fun w hw=>all_c pb sb L w hw.at) fun _ _=>pA_ 5 ?_
  refine loopA (γ:=Nat) (fun k=>[(0,.pointer (some ⟨pb,0,none⟩)),(1,.int .i64 c),(38,.int .i64 (L.length:Nat)),(39,.int .i64 (k:Nat))]) (fun _=>(plS pb sb L)) (fun k=>k≤L.length∧find2 L 0=find2 (L.drop k) k) (fun k=>L.length-k) (0) ⟨Nat.zero_le _,rfl⟩ fun k=>?_
  rintro⟨hk1,hk2⟩
  refine pA_ 6 ?_
  refine Cd_ rfl (fun h40=>?_) fun h40=>?_
  ·have hk3:k<L.length:=by omega
   obtain⟨s,hLi⟩:∃s,L[k]? =some s:=⟨L[k],by simp⟩
   have hdr:=drop_cons hLi
   refine pA_ 15 ?_
   refine Lv (Ld (v:= .slice (some ⟨sb,0,none⟩) L.length L.length))<|Lv Mv<|Lv (Val.indexAddrN (i:=k) rfl rfl Tryz.underlying192 Tryz.sizeOf197 hk3)<|LW.re 47 (.pointer (some ⟨sb,k*10,none⟩)) rfl (by simp)<|Lv (Fa 0 3)<|Lv (Ld (v:= .int .i64 s.c) (hl:=fl10 hLi (sl_c s)))<|pA_ 3 ?_
   refine Cd_ rfl (fun h50=>?_) fun h50=>?_
   ·refine pA_ 14 ?_
    refine Rt3 ?_
    have e8:findF L c=some (k,0):=by unfold findF;rw[hn1,Option.none_or,hk2,hdr,find2,if_pos h50]
    rw[e8]
    exact fr_ hs
   ·refine pA_ 7 ?_
    exact roundA (k+1) ⟨by omega,by rw[hk2,hdr,find2,if_neg h50]⟩ om_
  ·refine pA_ 13 ?_
   refine Rt3 ?_
   have e8:findF L c=none:=by unfold findF;rw[hn1,Option.none_or,hk2,List.drop_eq_nil_iff.2 om_];rfl
   rw[e8]
   exact fr_ hs
def ptakeF (L:List Slb)(c:Int):List Slb×Int×Int:=if spanF c=0 then(L,0,1) else match findF L c with
 |none=>(L,0,4)
 |some (i,k)=>match L[i]? with
  |none=>(L,0,4)
  |some s=>(L.set i (s.take c k),2+i*8+(k:Nat)*(spanF c:Nat),0)
theorem find_get {L:List Slb}{c:Int}{i k:Nat}(hL:plOk L)(hsp:spanF c≠0)(h:findF L c=some (i,k)):∃s,L[i]? =some s∧(s.c=c∨(s.c= -1∧k=0))∧(s.c=c→k<8/spanF c∧s.tk.1[k]? =some false)∧k<8/spanF c:=by
 have h8:0<8/spanF c:=by rcases spanF_cases c with⟨_,h⟩|⟨_,h⟩|⟨_,h⟩|⟨_,h⟩|⟨_,h⟩<;>first|(rw[h];decide)|exact absurd h hsp
 unfold findF at h
 cases h1:find1 c L 0 with
 |some p=>
  rw[h1,Option.some_or,Option.some.injEq] at h
  subst h
  obtain⟨s,a1,_,a2,a3⟩:=find1_get h1
  have a4:freeFrom s (8/spanF s.c) 9 0=(k:Nat):=a3
  obtain⟨j,b1,b2,b3⟩:=freeFrom_get (Nat.div_le_self 8 (spanF s.c)) (s:=s) (f:=9) (k:=0) (by rw[a4];omega)
  have e:j=k:=by rw[a4] at b1;omega
  subst e
  rw[a2] at b2
  exact⟨s,by simpa using a1,.inl a2,fun _=>⟨b2,b3⟩,b2⟩
 |none=>
  rw[h1,Option.none_or] at h
  obtain⟨s,a1,_,a2,rfl⟩:=find2_get h
  refine⟨s,by simpa using a1,.inr ⟨a2,rfl⟩,fun e=>?_,h8⟩
  exfalso
  rw[a2] at e
  subst e
  exact hsp rfl
end
section
attribute [local irreducible] V.CW V.LW V.QW V.RW V.PQ V.Val V.Eff V.Qcall
open V (str byC ownV ownG ownS ownOk)
instance:Cal Tryz.prog 245:=⟨Tryz.call245⟩
instance:Cal Tryz.prog 246:=⟨Tryz.call246⟩
theorem ptake_c (pb sb:Nat)(L:List Slb)(c:Int)(hL:plOk L):Mo Tryz.prog 213 [.pointer (some ⟨pb,0,none⟩),.int .i64 c] (plS pb sb L) (fun _u:Unit=>True) (fun _=> .tuple #[.int .i64 (ptakeF L c).2.1,.int .i64 (ptakeF L c).2.2]) (fun _=>plS pb sb (ptakeF L c).1):=by
 intro w hs
 refine Ca_ Tryz.func213 rfl Tryz.ntmps213 hs<|pA_ 13 ?_
 refine Le (Cz_ (span_c c)) fun _ _=>pA_ 4 ?_
 refine Cd_ rfl (fun h15=>?_) fun h15=>?_
 ·refine pA_ 9 ?_
  have e8:ptakeF L c=(L,0,1):=by unfold ptakeF;rw[if_pos om_]
  rw[e8]
  exact fi_ () trivial
 ·have hsp:spanF c≠0:=by omega
  refine pA_ 6 ?_
  refine Le (Cr_ (find_c pb sb L c hL hsp)) fun _ _=>?_
  rcases hf:findF L c with _|⟨i,k⟩
  ·skip
   refine pA_ 26 ?_
   have e8:ptakeF L c=(L,0,4):=by unfold ptakeF;rw[if_neg hsp,hf]
   rw[e8]
   exact fi_ () trivial
  ·obtain⟨s,hLi,hsc,_,hk8⟩:=find_get hL hsp hf
   have hi:=(List.getElem?_eq_some_iff.1 hLi).1
   have hl32:=hL.2
   have hd8:8/spanF c≤8:=Nat.div_le_self _ _
   have hs8:=span_le c
   have hkm:k*spanF c≤8:=by
    have h1:=Nat.mul_le_mul_right (spanF c) (Nat.le_of_lt hk8)
    have h2:=Nat.div_mul_le_self 8 (spanF c)
    omega
   have hkz:0≤((k:Nat):Int)*(spanF c:Nat)∧((k:Nat):Int)*(spanF c:Nat)≤8:=by
    have h9:=Int.natCast_mul k (spanF c)
    omega
   have hsl:slabF ((i:Nat):Int)=2+i*8:=by unfold slabF;rw[if_neg om_]
   refine pA_ 24 ?_
   refine Lv (Ld (v:= .slice (some ⟨sb,0,none⟩) L.length L.length))<|Lv Mv<|Lv (Val.indexAddrN (i:=i) rfl rfl Tryz.underlying192 Tryz.sizeOf197 hi)<|LW.re 30 (.pointer (some ⟨sb,i*10,none⟩)) rfl (by simp)<|Lv Mv<|Lv Mv<|Le (Cm_ (take_c sb i k c L s hLi om_ (hL.at hLi).bnd)) fun _ _=>pA_ 5 ?_
   refine Le (Cz_ (slab_c (i:Nat))) fun _ _=>Lv Mv<|Lv Mv<|Le (Cz_ (span_c c)) fun _ _=>Lv (Val.ar (r:=(k:Nat)*(spanF c:Nat)) rfl rfl rfl (IntWalk.i64_in _ om_))<|Lv (Val.ar (r:=slabF ((i:Nat):Int)+(k:Nat)*(spanF c:Nat)) rfl rfl rfl (IntWalk.i64_in _ (by rw[hsl];omega)))<|pA_ 6 ?_
   have e8:ptakeF L c=(L.set i (s.take c k),(2:Int)+(i:Nat)*8+(k:Nat)*(spanF c:Nat),(0:Int)):=by
    unfold ptakeF
    rw[if_neg hsp,hf]
    simp only[hLi]
   rw[e8]
   intro w' hw;exact⟨(),trivial,by rw[hsl],by unfold plS;rw[List.length_set];exact hw.pick pk_⟩
theorem ptakeF_ok {L:List Slb}{c:Int}(h:plOk L):plOk (ptakeF L c).1:=by
 unfold ptakeF
 split
 ·exact h
 ·rename_i hsp
  split
  ·exact h
  ·rename_i i k hf
   obtain⟨s,hLi,hsc,hfr,hk8⟩:=find_get h hsp hf
   rw[hLi]
   refine h.set ?_
   have hc:0≤c∧c≤3:=by rcases spanF_cases c with⟨a,_⟩|⟨a,_⟩|⟨a,_⟩|⟨a,_⟩|⟨a,e⟩<;>first|omega|exact absurd e hsp
   rcases hsc with e|⟨e,rfl⟩
   ·exact Slb.take_ok (h.at hLi) hc (hfr e).2
   ·exact Slb.take_ok (h.at hLi) hc ((h.at hLi).none e om_)
def atF (L:List Slb)(line:Int):Option (Nat×Slb×Int):=if slabOfF line<0∨(L.length:Int)≤slabOfF line then none else(L[(slabOfF line).toNat]?).map fun s=>((slabOfF line).toNat,s,ixI (startsF (slabOfF line) s.c) line)
def atOk (s:Slb)(k:Int):Bool:=decide (0≤k)&&(s.tk.1[k.toNat]?.getD false)
def atV (sb:Nat)(o:Option (Nat×Slb×Int)):Value:=match o with
 |none=> .tuple #[.pointer none,.int .i64 0,.bool false]
 |some (i,s,k)=> .tuple #[.pointer (some ⟨sb,i*10,none⟩),.int .i64 k,.bool (atOk s k)]
theorem at_get {L:List Slb}{line:Int}{i:Nat}{s:Slb}{k:Int}(h:atF L line=some (i,s,k)):L[i]? =some s∧slabOfF line=(i:Nat)∧k=ixI (startsF (i:Nat) s.c) line∧(atOk s k=true→∃j:Nat,k=j∧j<8∧s.tk.1[j]? =some true):=by
 unfold atF at h
 split at h
 ·cases h
 ·rename_i hn
  rw[Option.map_eq_some_iff] at h
  obtain⟨s2,h1,h2⟩:=h
  simp only[Prod.mk.injEq] at h2
  obtain⟨rfl,rfl,rfl⟩:=h2
  have e:((slabOfF line).toNat:Int)=slabOfF line:=by omega
  refine⟨h1,e.symm,by rw[e],fun hk=>?_⟩
  unfold atOk at hk
  rw[Bool.and_eq_true,decide_eq_true_eq] at hk
  obtain⟨j,hj⟩:∃j:Nat,ixI (startsF (slabOfF line) s2.c) line=j:=⟨(ixI (startsF (slabOfF line) s2.c) line).toNat,by omega⟩
  obtain⟨_,h8,_⟩:=starts_get hj
  obtain⟨b,hb⟩:=tk_get s2 h8
  refine⟨j,hj,h8,?_⟩
  have h9:=hk.2
  rw[hj,Int.toNat_natCast,hb] at h9
  rw[hb];exact congrArg some h9
theorem at_c (pb sb:Nat)(L:List Slb)(line:Int)(hL:plOk L):Rx Tryz.prog 245 [.pointer (some ⟨pb,0,none⟩),.int .i64 line] (plS pb sb L) (atV sb (atF L line)):=by
 intro w hs
 refine Ca_ Tryz.func245 rfl Tryz.ntmps245 hs<|pA_ 10 ?_
 refine Le (Cz_ (slabOf_c line)) fun _ _=>pA_ 9 ?_
 refine LW.split (d:=14) rfl (fun h14=>?_) (fun h14=>?_)
 ·replace h14:=bT h14
  refine pA_ 18 ?_
  refine Rt3 ?_
  have e8:atF L line=none:=by unfold atF;rw[if_pos om_]
  rw[e8]
  exact fr_ hs
 ·replace h14:=bF h14
  refine Lv Mv<|Lv Mv<|Le (CV fun w hw=>all_c pb sb L w hw.at) fun _ _=>pA_ 5 ?_
  refine Cd_ rfl (fun h20=>?_) fun h20=>?_
  ·refine pA_ 9 ?_
   refine Rt3 ?_
   have e8:atF L line=none:=by unfold atF;rw[if_pos om_]
   rw[e8]
   exact fr_ hs
  ·obtain⟨i,hi⟩:∃i:Nat,slabOfF line=i:=⟨(slabOfF line).toNat,by omega⟩
   have hil:i<L.length:=by omega
   obtain⟨s,hLi⟩:∃s,L[i]? =some s:=⟨L[i],by simp⟩
   have hat:atF L line=some (i,s,ixI (startsF (i:Nat) s.c) line):=by unfold atF;rw[if_neg om_,hi,Int.toNat_natCast,hLi];rfl
   refine pA_ 7 ?_
   refine Lv (Ld (v:= .slice (some ⟨sb,0,none⟩) L.length L.length))<|Lv Mv<|LW.re 25 (.int .i64 (i:Nat)) rfl (by rw[hi])<|Lv (Val.indexAddrN (i:=i) rfl rfl Tryz.underlying192 Tryz.sizeOf197 hil)<|LW.re 26 (.pointer (some ⟨sb,i*10,none⟩)) rfl (by simp)<|pA_ 6 ?_
   refine LW.re 27 (.int .i64 (i:Nat)) rfl (by rw[hi])<|pA_ 3 ?_
   refine Lv (Ld (v:= .int .i64 s.c) (hl:=fl10 hLi (sl_c s)))<|Le (Cn_ (starts_c (i:Nat) s.c)) fun o ho=>?_
   obtain⟨ps,cs,hvs,hss⟩:=own_slI _ o ho
   have hsl:=starts_len (i:Nat) s.c
   refine LW.re 32 (.slice ps (startsF (i:Nat) s.c).length cs) rfl hvs<|Lv Mv<|Le (CV fun w hw=>index_g (startsF (i:Nat) s.c) ps cs line om_ w (hss hw pk_)) fun _ _=>pA_ 4 ?_
   refine Qt<|pA_ 5 ?_
   refine QW.split (d:=39) rfl (fun h39=>?_) (fun h39=>?_)
   ·replace h39:=bT h39
    obtain⟨j,hj⟩:∃j:Nat,ixI (startsF (i:Nat) s.c) line=j:=⟨(ixI (startsF (i:Nat) s.c) line).toNat,by omega⟩
    obtain⟨_,hj8,_⟩:=starts_get hj
    obtain⟨b,hb⟩:=tk_get s hj8
    have hok:atOk s (ixI (startsF (i:Nat) s.c) line)=b:=by unfold atOk;rw[hj,Int.toNat_natCast,hb];simp
    refine Qv Mv<|Qv Mv<|QW.re 41 (.int .i64 (j:Nat)) rfl (by rw[hj])<|Qv Nz<|Qv (Fa 1 195)<|Qv (Val.indexAddrA (i:=j) rfl rfl Tryz.underlying195 Tryz.sizeOf4 hj8)<|Qv (Ld (v:= .bool b) (hl:=by rw[Nat.mul_one,Nat.add_assoc];exact fl10 hLi (sl_t s hb)))<|pA_ 7 ?_
    refine Rt3 ?_
    rw[hat]
    intro w' hw;exact⟨by rw[← hok];rfl,hw.ro pk_ hs⟩
   ·replace h39:=bF h39
    have hok:atOk s (ixI (startsF (i:Nat) s.c) line)=false:=by unfold atOk;rw[decide_eq_false om_];rfl
    refine pA_ 13 ?_
    refine Rt3 ?_
    rw[hat]
    intro w' hw;exact⟨by rw[← hok];rfl,hw.ro pk_ hs⟩
def giveF (L:List Slb)(line:Int):List Slb×Int:=match atF L line with
 |none=>(L,1)
 |some (i,s,k)=>if atOk s k=true then(L.set i (s.give k.toNat),0) else(L,1)
theorem giveF_ok {L:List Slb}{line:Int}(h:plOk L):plOk (giveF L line).1:=by
 unfold giveF
 split
 ·exact h
 ·rename_i i s k hat
  split
  ·rename_i hok
   obtain⟨hLi,_,_,hj⟩:=at_get hat
   obtain⟨j,rfl,h8,hb⟩:=hj hok
   exact h.set (Slb.give_ok (h.at hLi) hb)
  ·exact h
def ofF (L:List Slb)(line:Int):Int×Bool:=match atF L line with
 |none=>(0,false)
 |some (i,s,k)=>if atOk s k=true then(s.c,true) else(0,false)
theorem of_c (pb sb:Nat)(L:List Slb)(line:Int)(hL:plOk L):Rx Tryz.prog 250 [.pointer (some ⟨pb,0,none⟩),.int .i64 line] (plS pb sb L) (.tuple #[.int .i64 (ofF L line).1,.bool (ofF L line).2]):=by
 intro w hs
 refine Ca_ Tryz.func250 rfl Tryz.ntmps250 hs<|pA_ 10 ?_
 refine Le (Cr_ (at_c pb sb L line hL)) fun _ _=>?_
 rcases hat:atF L line with _|⟨i,s,kk⟩
 ·skip
  refine pA_ 26 ?_
  have e8:ofF L line=(0,false):=by unfold ofF;rw[hat]
  rw[e8]
  exact fr_ hs
 ·obtain⟨hLi,_,_,hj⟩:=at_get hat
  refine pA_ 16 ?_
  refine Cd_ rfl (fun h17=>?_) fun h17=>?_
  ·have h17:atOk s kk=false:=by simpa using h17
   refine pA_ 9 ?_
   have e8:ofF L line=(0,false):=by unfold ofF;rw[hat];exact if_neg (by simp[h17])
   rw[e8]
   exact fr_ hs
  ·have h17:atOk s kk=true:=by simpa using h17
   refine pA_ 7 ?_
   refine Lv (Ld (v:= .int .i64 s.c) (hl:=by have h8:=fl10 hLi (sl_c s);simpa using h8))<|pA_ 6 ?_
   have e8:ofF L line=(s.c,true):=by unfold ofF;rw[hat];exact if_pos h17
   rw[e8]
   exact fr_ hs
theorem give_c (pb sb:Nat)(L:List Slb)(line:Int)(hL:plOk L):Mo Tryz.prog 212 [.pointer (some ⟨pb,0,none⟩),.int .i64 line] (plS pb sb L) (fun _u:Unit=>True) (fun _=> .int .i64 (giveF L line).2) (fun _=>plS pb sb (giveF L line).1):=by
 intro w hs
 refine Ca_ Tryz.func212 rfl Tryz.ntmps212 hs<|pA_ 9 ?_
 refine Le (Cr_ (at_c pb sb L line hL)) fun _ _=>?_
 rcases hat:atF L line with _|⟨i,s,kk⟩
 ·skip
  refine pA_ 25 ?_
  have e8:giveF L line=(L,1):=by unfold giveF;rw[hat]
  rw[e8]
  exact fi_ () trivial
 ·obtain⟨hLi,_,_,hj⟩:=at_get hat
  have hi:=(List.getElem?_eq_some_iff.1 hLi).1
  have hmul:=Nat.mul_le_mul_right 10 (show i+1≤L.length from hi)
  have hbn:=(hL.at hLi).bnd
  refine pA_ 16 ?_
  refine Cd_ rfl (fun h16=>?_) fun h16=>?_
  ·have h16:atOk s kk=false:=by simpa using h16
   refine pA_ 8 ?_
   have e8:giveF L line=(L,1):=by unfold giveF;rw[hat];exact if_neg (by simp[h16])
   rw[e8]
   exact fi_ () trivial
  ·have h16:atOk s kk=true:=by simpa using h16
   obtain⟨j,hje,hj8,hb⟩:=hj h16
   subst hje
   have h1:(L.set i ({s with tk:=setB s.tk j false}:Slb))[i]? =some ({s with tk:=setB s.tk j false}:Slb):=List.getElem?_set_self hi
   have h2:(L.set i ({s with tk:=setB s.tk j false,n:=s.n-1}:Slb))[i]? =some ({s with tk:=setB s.tk j false,n:=s.n-1}:Slb):=List.getElem?_set_self hi
   refine pA_ 8 ?_
   refine Lv (Val.indexAddrA (i:=j) rfl rfl Tryz.underlying195 Tryz.sizeOf4 hj8)<|LeN (Eff.storeX (v:= .bool false) (l:=L.flatMap slC) (l':=(L.set i ({s with tk:=setB s.tk j false}:Slb)).flatMap slC) rfl rfl rfl up_ (by have h8:=st10 hLi (s':=({s with tk:=setB s.tk j false}:Slb)) (1+j) (.bool false) (sl_sett s hj8 false) om_;simpa[Nat.add_assoc] using h8) (by rw[V.flatMap_len slC_len];simp;omega) Tryz.sizeOf4) fun _ _=>pA_ 7 ?_
   refine Lv (Ld (v:= .int .i64 s.n) (hl:=by have h8:=fl10 h1 (sl_n _);simpa using h8))<|pA_ 3 ?_
   refine LeN (Eff.storeX (v:= .int .i64 (s.n-1)) (l:=(L.set i ({s with tk:=setB s.tk j false}:Slb)).flatMap slC) (l':=(L.set i ({s with tk:=setB s.tk j false,n:=s.n-1}:Slb)).flatMap slC) rfl rfl rfl up_ (by have h8:=st10 h1 (s':=({s with tk:=setB s.tk j false,n:=s.n-1}:Slb)) (9) (.int .i64 (s.n-1)) (sl_setn ({s with tk:=setB s.tk j false}:Slb) (s.n-1)) om_;rw[List.set_set] at h8;simpa[Nat.add_assoc] using h8) (by rw[V.flatMap_len slC_len];simp;omega) Tryz.sizeOf3) fun _ _=>pA_ 8 ?_
   refine Lv (Ld (v:= .int .i64 (s.n-1)) (hl:=by have h8:=fl10 h2 (sl_n _);simpa using h8))<|pA_ 3 ?_
   refine Cd_ rfl (fun h33=>?_) fun h33=>?_
   ·refine pA_ 4 ?_
    refine LeN (Eff.storeX (v:= .int .i64 (-1)) (l:=(L.set i ({s with tk:=setB s.tk j false,n:=s.n-1}:Slb)).flatMap slC) (l':=(L.set i (s.give j)).flatMap slC) rfl rfl rfl up_ (by have h8:=st10 h2 (s':=(s.give j)) (0) (.int .i64 (-1)) ((by unfold Slb.give;rw[if_pos h33];exact sl_setc ({s with tk:=setB s.tk j false,n:=s.n-1}:Slb) (-1))) om_;rw[List.set_set] at h8;simpa[Nat.add_assoc] using h8) (by rw[V.flatMap_len slC_len];simp;omega) Tryz.sizeOf3) fun _ _=>pA_ 9 ?_
    have e8:giveF L line=(L.set i (s.give j),0):=by unfold giveF;rw[hat];exact if_pos h16
    rw[e8]
    intro w' hw;exact⟨(),trivial,rfl,by unfold plS;rw[List.length_set];exact hw.pick pk_⟩
   ·refine pA_ 9 ?_
    have e8:giveF L line=(L.set i (s.give j),0):=by unfold giveF;rw[hat];exact if_pos h16
    rw[e8]
    have e9:s.give j=({s with tk:=setB s.tk j false,n:=s.n-1}:Slb):=by unfold Slb.give;rw[if_neg h33]
    rw[e9]
    intro w' hw;exact⟨(),trivial,rfl,by unfold plS;rw[List.length_set];exact hw.pick pk_⟩
end
end G
end Go.Proofs.YtjidffamcdcecaaGreat
namespace Go.Proofs.YtjidffamcdcecaaGreat.V
open Go Go.RowKit
set_option linter.unusedVariables false
section
variable {P:Program}{n:Nat}{B:Base}{ks:Ks}{sg:Sg}{d:Option Tmp}{ty:TypeId}{pos:String}{aft:Array Edge}{g:Option (Nat×Bool)}
theorem Eff.makeCap {t e:TypeId}{x y:Operand}{m sz by_:Nat}{z:Value}{zl:List Value}(hx:ev ks x=some (.int .i64 0))(hy:ev ks y=some (.int .i64 (m:Nat)))(hu:P.underlying t=some (.slice e))(hi:(P.info? e).map (·.bytes)=some by_)(hs:∀w,(sizeOf e).run P w= .ok sz w)
 (hz:∀w,(zeroValue e).run P w= .ok z w)(hzl:z.cells=zl.toArray)(hzs:zl.length=sz)(hpos:0<m*sz)(hm:m*by_≤140737488355328)(hm':m≤9223372036854775807):
 Eff P n B ⟨d,.makeSlice t x y,ty,pos,aft,g⟩ ks sg (α:=Nat) (fun _=>True) (fun b=> .slice (some ⟨b,0,none⟩) 0 m) (fun b=>[(b,.cells (repL zl m).toArray e (0,0))]::sg):=
 Eff.new fun a w ha hw=>by
  show(do pure (Next.value (← Instr.makeSlice t (a.eval x) (a.eval y))):Sem Next).run P w=_
  rw[ha.ev hx,ha.ev hy]
  refine run_value ?_
  have hw1:IntKind.i64.wrap (m:Nat)=(m:Nat):=IntWalk.i64_in _ (by omega)
  have hw0:IntKind.i64.wrap 0=0:=by decide
  cases hq:P.info? e with
  |none=>simp[hq] at hi
  |some i=>
   have hb:i.bytes=by_:=by simpa[hq] using hi
   have hti:(typeInfo e).run P w= .ok i w:=by simp[typeInfo,hq]
   have hr:=range_rep zl m
   rw[hzs] at hr
   have h1:¬((m:Nat):Int)<0:=by omega
   have hbm:by_*m≤140737488355328:=by rw[Nat.mul_comm];exact hm
   have h2:¬((by_:Nat):Int)*((m:Nat):Int)>2^48:=by
    have h3:((by_:Nat):Int)*((m:Nat):Int)=((by_*m:Nat):Int):=by simp
    rw[h3]
    have h4:(2:Int)^48=281474976710656:=by decide
    omega
   have h3:¬m*by_>roomBytes:=by unfold roomBytes;omega
   have h5:¬m*sz=0:=by omega
   have h6:¬((m:Nat):Int)<0:=h1
   have h7:(0:Int).toNat=0:=rfl
   simp only[Instr.makeSlice,Sem.run_bind,run_underlying hu,Result.andThen_ok,asInt,asIntOf,Sem.run_pure,hti,hw1,hw0,hb,h1,h2,h7,decide_false,Bool.or_false,Bool.false_eq_true,if_false,Int.lt_irrefl,gt_iff_lt,Int.toNat_natCast,askRoom,h3,hs,h5,hz,hzl,hr,newRow,newObj,Sem.run]
end
end Go.Proofs.YtjidffamcdcecaaGreat.V
namespace Go.Proofs.YtjidffamcdcecaaGreat
open Go Go.RowKit V
set_option linter.unusedVariables false
set_option maxRecDepth 100000
set_option maxHeartbeats 1000000
namespace G
section
attribute [local irreducible] V.CW V.LW V.QW V.RW V.PQ V.Val V.Eff V.Qcall
open V (str byC ownV ownG ownS ownOk)
structure Lk where
 key:List UInt8
 id:Int
 ver:Int
 line:Int
 cls:Int
 deriving DecidableEq
def lk0:Lk:=⟨[],0,0,0,0⟩
def lkC (x:Lk):List Value:=[str x.key,.int .u64 x.id,.int .u64 x.ver,.int .i64 x.line,.int .i64 x.cls]
theorem lkC_len (x:Lk):(lkC x).length=5:=rfl
theorem lkC_one (x:Lk):(lkC x).all (·.oneCell')=true:=rfl
structure Rng where
 R:List Lk
 at_:Nat
 n:Nat
def rgOk (r:Rng):Prop:=r.n≤r.R.length∧r.at_≤r.R.length∧(0<r.R.length→r.at_<r.R.length)∧r.R.length≤100000
def Rng.ix (r:Rng)(i:Nat):Nat:=if r.at_+i<r.R.length then r.at_+i else r.at_+i-r.R.length
def rgQ (r:Rng):List Lk:=(List.range r.n).map fun i=>(r.R[r.ix i]?).getD lk0
theorem rgQ_len (r:Rng):(rgQ r).length=r.n:=by unfold rgQ;simp
theorem ix_mod {r:Rng}(h:rgOk r){i:Nat}(hi:i≤r.R.length)(h0:0<r.R.length):(r.at_+i)%r.R.length=r.ix i∧r.ix i<r.R.length:=by
 have h1:=h.2.2.1 h0
 unfold Rng.ix
 split
 ·rename_i h2;exact⟨Nat.mod_eq_of_lt h2,h2⟩
 ·rename_i h2
  rw[Nat.mod_eq_sub_mod om_,Nat.mod_eq_of_lt om_]
  omega
def Rng.push (r:Rng)(x:Lk):Rng:=if r.n=r.R.length then⟨r.R.drop r.at_++r.R.take r.at_++[x],0,r.n+1⟩ else⟨r.R.set (r.ix r.n) x,r.at_,r.n+1⟩
def Rng.pop (r:Rng):Rng:=if r.n=0 then r else⟨r.R.set r.at_ lk0,r.ix 1,r.n-1⟩
theorem rgQ_get (r:Rng)(i:Nat):(rgQ r)[i]? =if i<r.n then some ((r.R[r.ix i]?).getD lk0) else none:=by
 unfold rgQ
 rw[List.getElem?_map]
 by_cases h:i<r.n
 ·rw[if_pos h,List.getElem?_range h];rfl
 ·rw[if_neg h,List.getElem?_eq_none (by simp;omega)];rfl
theorem Rng.push_ok {r:Rng}(h:rgOk r)(hm:r.R.length<100000)(x:Lk):rgOk (r.push x):=by
 obtain⟨h1,h2,h3,h4⟩:=h
 unfold Rng.push
 split
 ·rename_i e
  have hl:(r.R.drop r.at_++r.R.take r.at_++[x]).length=r.R.length+1:=by simp;omega
  refine⟨?_,?_,?_,?_⟩<;>simp only[hl]<;>omega
 ·rename_i e
  refine⟨?_,?_,?_,?_⟩<;>simp only[List.length_set]<;>first|omega|exact h3
theorem Rng.pop_ok {r:Rng}(h:rgOk r):rgOk r.pop:=by
 unfold Rng.pop
 split
 ·exact h
 ·rename_i e
  have h5:=ix_mod h (i:=1) (by have:=h.1;omega) (by have:=h.1;omega)
  obtain⟨h1,h2,h3,h4⟩:=h
  refine⟨?_,?_,?_,?_⟩<;>simp only[List.length_set]<;>omega
theorem Rng.push_Q {r:Rng}(h:rgOk r)(x:Lk):rgQ (r.push x)=rgQ r++[x]:=by
 obtain⟨h1,h2,h3,h4⟩:=h
 apply List.ext_getElem?
 intro i
 rw[rgQ_get]
 have hl:=rgQ_len r
 by_cases e:r.n=r.R.length
 ·have ep:r.push x=⟨r.R.drop r.at_++r.R.take r.at_++[x],0,r.n+1⟩:=by unfold Rng.push;rw[if_pos e]
  rw[ep]
  have hlen:(r.R.drop r.at_++r.R.take r.at_++[x]).length=r.R.length+1:=by simp;omega
  have hd:(r.R.drop r.at_).length=r.R.length-r.at_:=by simp
  have ht:(r.R.take r.at_).length=r.at_:=by simp;omega
  by_cases hi:i<r.n
  ·have hix:Rng.ix ⟨r.R.drop r.at_++r.R.take r.at_++[x],0,r.n+1⟩ i=i:=by unfold Rng.ix;simp only[hlen];rw[if_pos om_];omega
   simp only[hix]
   rw[if_pos om_,List.getElem?_append_left (l₁:=rgQ r) om_,rgQ_get,if_pos hi]
   congr 2
   rw[List.append_assoc]
   unfold Rng.ix
   by_cases hc:r.at_+i<r.R.length
   ·rw[if_pos hc,List.getElem?_append_left om_,List.getElem?_drop]
   ·rw[if_neg hc,List.getElem?_append_right om_,hd,List.getElem?_append_left om_,List.getElem?_take,if_pos om_]
    congr 1
    omega
  ·by_cases hi2:i=r.n
   ·subst hi2
    have hix:Rng.ix ⟨r.R.drop r.at_++r.R.take r.at_++[x],0,r.n+1⟩ r.n=r.n:=by unfold Rng.ix;simp only[hlen];rw[if_pos om_];omega
    simp only[hix]
    rw[if_pos om_,List.getElem?_append_right (l₁:=rgQ r) om_,hl,Nat.sub_self]
    rw[List.getElem?_append_right (by rw[List.length_append];omega)]
    have:r.n-(r.R.drop r.at_++r.R.take r.at_).length=0:=by rw[List.length_append];omega
    rw[this]
    rfl
   ·rw[if_neg (by simp only;omega),List.getElem?_eq_none (by rw[List.length_append,hl];simp;omega)]
 ·have ep:r.push x=⟨r.R.set (r.ix r.n) x,r.at_,r.n+1⟩:=by unfold Rng.push;rw[if_neg e]
  rw[ep]
  have hx:∀j,Rng.ix ⟨r.R.set (r.ix r.n) x,r.at_,r.n+1⟩ j=r.ix j:=fun j=>by unfold Rng.ix;simp only[List.length_set]
  simp only[hx]
  have hxn:r.ix r.n<r.R.length:=(ix_mod ⟨h1,h2,h3,h4⟩ om_ om_).2
  by_cases hi:i<r.n
  ·rw[if_pos om_,List.getElem?_append_left om_,rgQ_get,if_pos hi,List.getElem?_set_ne]
   unfold Rng.ix
   have:=h3 om_
   split<;>split<;>omega
  ·by_cases hi2:i=r.n
   ·subst hi2
    rw[if_pos om_,List.getElem?_append_right om_,hl,Nat.sub_self,List.getElem?_set_self hxn]
    rfl
   ·rw[if_neg om_,List.getElem?_eq_none (by rw[List.length_append,hl];simp;omega)]
theorem Rng.pop_Q {r:Rng}(h:rgOk r):rgQ r.pop=(rgQ r).tail:=by
 by_cases e:r.n=0
 ·have ep:r.pop=r:=by unfold Rng.pop;rw[if_pos e]
  have:rgQ r=[]:=List.length_eq_zero_iff.1 (by rw[rgQ_len];exact e)
  rw[ep,this];rfl
 ·have ep:r.pop=⟨r.R.set r.at_ lk0,r.ix 1,r.n-1⟩:=by unfold Rng.pop;rw[if_neg e]
  have h5:=ix_mod h (i:=1) (by have:=h.1;omega) (by have:=h.1;omega)
  obtain⟨h1,h2,h3,h4⟩:=h
  have h6:=h3 om_
  rw[ep]
  apply List.ext_getElem?
  intro i
  rw[rgQ_get,List.getElem?_tail,rgQ_get]
  by_cases hi:i<r.n-1
  ·rw[if_pos (by simp only;omega),if_pos om_]
   congr 2
   have hx:Rng.ix ⟨r.R.set r.at_ lk0,r.ix 1,r.n-1⟩ i=r.ix (i+1):=by
    unfold Rng.ix
    simp only[List.length_set]
    split<;>split<;>split<;>omega
   rw[hx,List.getElem?_set_ne]
   unfold Rng.ix
   split<;>omega
  ·rw[if_neg (by simp only;omega),if_neg om_]
theorem Rng.head_Q {r:Rng}(h:rgOk r)(hn:0<r.n):(rgQ r).head?=r.R[r.at_]? :=by
 obtain⟨h1,h2,h3,h4⟩:=h
 have h6:=h3 om_
 rw[List.head?_eq_getElem?,rgQ_get,if_pos hn]
 have:r.ix 0=r.at_:=by unfold Rng.ix;rw[if_pos om_];omega
 rw[this,List.getElem?_eq_getElem h6]
 rfl
def rgC (r:Rng)(o:V.OwnO):List Value:=[ownV r.R.length o,.int .i64 (r.at_:Nat),.int .i64 (r.n:Nat)]
abbrev rgS (T fb:Nat)(r:Rng)(o:V.OwnO):Sg:=[[(fb,.cells (rgC r o).toArray T (0,0))],ownG 108 (r.R.flatMap lkC) o]
def rgO (r:Rng)(o:V.OwnO):Prop:=rgOk r∧ownOk 5 r.R.length (r.R.flatMap lkC) o
end
section
attribute [local irreducible] V.CW V.LW V.QW V.RW V.PQ V.Val V.Eff V.Qcall
open V (str byC ownV ownG ownS ownOk)
theorem lk_drop (l:List Lk)(k:Nat)(rest:List Value)(hk:k≤l.length):(l.flatMap lkC++rest).drop (k*5)=(l.drop k).flatMap lkC++rest:=by
 have e:l.flatMap lkC=(l.take k).flatMap lkC++(l.drop k).flatMap lkC:=by rw[← List.flatMap_append,List.take_append_drop]
 have hl:((l.take k).flatMap lkC).length=k*5:=by rw[V.flatMap_len lkC_len,List.length_take];omega
 rw[e,List.append_assoc,List.drop_left' hl]
theorem lk_take (l:List Lk)(k:Nat)(rest:List Value):(l.flatMap lkC++rest).drop 0=(l.take k).flatMap lkC++((l.drop k).flatMap lkC++rest):=by
 rw[List.drop_zero,← List.append_assoc,← List.flatMap_append,List.take_append_drop]
theorem own_cap {l:List Lk}{g c:Nat}{rest:List Value}(h:ownOk 5 l.length (l.flatMap lkC) (some (g,rest,c))):l.length≤c∧l.length*5+rest.length=c*5:=by
 have h2:(l.flatMap lkC).length+rest.length=c*5:=h.2
 rw[V.flatMap_len lkC_len] at h2
 omega
theorem mod_nat (a b:Nat):((a:Nat):Int).tmod (b:Nat)=((a%b:Nat):Int):=rfl
theorem rpush_c (fb:Nat)(r:Rng)(o:V.OwnO)(x:Lk)(hr:rgO r o)(hm:r.R.length≤50000):Mo Tryz.prog 196 [.pointer (some ⟨fb,0,none⟩),.agg (lkC x).toArray] (rgS 180 fb r o) (fun o2:V.OwnO=>rgO (r.push x) o2) (fun _=> .tuple #[]) (fun o2=>rgS 180 fb (r.push x) o2):=by
 intro w hs
 have hpo:=Rng.push_ok hr.1 om_ x
 obtain⟨⟨hr1,hr2,hr3,hr4⟩,ho⟩:=hr
 obtain⟨R,at_,n⟩:=r
 simp only at hr1 hr2 hr3 hr4 ho hm
 rcases o with _|⟨g,rest,cap⟩
 ·obtain rfl:R=[]:=List.length_eq_zero_iff.1 ho.2
  simp only[List.length_nil] at hr1 hr2
  obtain rfl:n=0:=by omega
  obtain rfl:at_=0:=by omega
  refine Cs_ [[(fb,.cells (rgC ⟨[],0,0⟩ none).toArray 180 (0,0))],ownG 108 (([]:List Lk).flatMap lkC) none] Tryz.func196 rfl Tryz.ntmps196 hs<|Sq<|Rg<|Le XA fun b3 _=>pA_ 4 ?_
  refine Qt<|pA_ 3 ?_
  refine Qv (Ld (v:= .int .i64 0))<|pA_ 3 ?_
  refine Qv (Ld (v:= .slice none 0 0))<|Qv Ln<|Qv Cm<|QW.re 14 (.bool true) rfl (by rfl)<|pA_ 8 ?_
  refine Lv (Ld (v:= .int .i64 0))<|Lv Ar<|Lv Ar<|LW.re 20 (.int .i64 ((1:Nat):Int)) rfl (by rfl)<|Le (Eff.makeCap (m:=1) (by_:=48) (zl:=lkC lk0) rfl rfl Tryz.underlying104 kr_ Tryz.sizeOf108 (by exact Tryz.zeroValue108) kr_ rfl om_ om_ om_) fun b21 _=>pA_ 4 ?_
  refine Dr ([[(fb,.cells (rgC ⟨[],0,0⟩ none).toArray 180 (0,0))]])<|pR_ [0,1,2,3] ?_
  refine Rv 4 rfl (Ld (v:= .slice none 0 0))<|pR_ [5,6,7] ?_
  refine Rv 8 rfl (Ld (v:= .int .i64 0))<|Rv 9 rfl (Val.sliceG 0 0 0 rfl Tryz.underlying104 Tryz.sizeOf108 ⟨_,rfl⟩ rfl rfl (fun _=>rfl) om_ om_ om_)<|RW.re 31 (.slice none 0 0) rfl (by rfl)<|Re 10 rfl (Eff.appendAny (([]:List Value)) (sz:=5) (bytes:=48) (z:= .agg #[.string ⟨#[]⟩,.int .u64 0,.int .u64 0,.int .i64 0,.int .i64 0]) (xs:=[]) (m0:=0) (o:=some (b21,V.repL (lkC lk0) 1,1)) (m:=0) (pk:=[[(b21,.cells (V.repL (lkC lk0) 1).toArray 108 (0,0))]]) rfl rfl Tryz.underlying104 kr_ rfl om_ pk_ (by rfl) ⟨rfl,by show _+(V.repL (lkC lk0) 1).length=_;rw[V.repL_length];simp[lkC_len]⟩ (by rfl) (fun hm0=>absurd hm0 om_) (by rfl) om_ om_) fun o1 ho1=>Rv 11 rfl Av<|pA_ 3 ?_
  refine Dr ([[(fb,.cells (rgC ⟨[],0,0⟩ none).toArray 180 (0,0))]])<|pR_ [0,1,2,3] ?_
  refine Rv 4 rfl (Ld (v:= .slice none 0 0))<|pR_ [5,6,7] ?_
  refine Rv 8 rfl (Ld (v:= .int .i64 0))<|Rv 9 rfl (Val.sliceG 0 0 0 rfl Tryz.underlying104 Tryz.sizeOf108 rfl ⟨_,rfl⟩ rfl (fun _=>rfl) om_ om_ om_)<|RW.re 42 (.slice none 0 0) rfl (by rfl)<|Re 10 rfl (Eff.appendAny (([]:List Value)) (sz:=5) (bytes:=48) (z:= .agg #[.string ⟨#[]⟩,.int .u64 0,.int .u64 0,.int .i64 0,.int .i64 0]) (xs:=([]:List Value)++[]) (m0:=0+0) (o:=o1) (m:=0) (pk:=[ownG 108 (([]:List Value)++[]) o1]) rfl rfl Tryz.underlying104 kr_ rfl om_ pk_ (by simp) ho1 (by rfl) (fun hm0=>absurd hm0 om_) (by rfl) om_ om_) ?_
  intro o2 ho2
  refine Rv 11 rfl Av<|pA_ 6 ?_
  refine Lv Lw<|Le (Eff.buildSlice (rfl) [_,_,_,_,_] Tryz.underlying104 Tryz.sizeOf108 (by exact Tryz.zeroValue108) rfl rfl rfl rfl (by rfl)) fun b48 _=>Le (Eff.appendAny (lkC x) (sz:=5) (bytes:=48) (z:= .agg #[.string ⟨#[]⟩,.int .u64 0,.int .u64 0,.int .i64 0,.int .i64 0]) (xs:=([]++[])++[]) (m0:=0+0+0) (o:=o2) (m:=1) (pk:=[ownG 108 (([]++[])++[]) o2]) rfl rfl Tryz.underlying104 kr_ rfl om_ pk_ (by simp) ho2 (by rfl) (fun hm0=>⟨b48,0,rfl,fun w hw=>V.range_of_block (o:=0) (cs:=lkC x) (r:=[]) (hw.at (b:=b48)) (by rfl)⟩) (by rfl) om_ om_) fun o3 ho3=>Lv Nz<|Lv (Fa 0 104)<|LeN (StS (h1:=V.ownV_one _ _)) fun _ _=>Lv Nz<|Lv (Fa 1 3)<|LeN StS fun _ _=>pA_ 6 ?_
  refine Lv (Ld (v:= .int .i64 0))<|pA_ 3 ?_
  refine LeN StS fun _ _=>Nl<|PQ.end0 rfl fun w' hw=>?_
  exact⟨o3,⟨hpo,by simpa[Rng.push] using ho3⟩,rfl,hw.pick pk_⟩
 ·obtain⟨hc1,hc2⟩:=own_cap ho
  by_cases hn:n=R.length
  ·subst hn
   have ep:Rng.push ⟨R,at_,R.length⟩ x=⟨R.drop at_++R.take at_++[x],0,R.length+1⟩:=by unfold Rng.push;exact if_pos rfl
   rw[ep] at hpo⊢
   have hfl:(((([]:List Value)++(R.drop at_).flatMap lkC)++(R.take at_).flatMap lkC)++lkC x)=(R.drop at_++R.take at_++[x]).flatMap lkC:=by simp
   have hln:(R.drop at_++R.take at_++[x]).length=0+(R.length-at_)+at_+1:=by simp only[List.length_append,List.length_drop,List.length_take,List.length_cons,List.length_nil];omega
   refine Cs_ [[(fb,.cells (rgC ⟨R,at_,R.length⟩ (some (g,rest,cap))).toArray 180 (0,0))],[(g,.cells (R.flatMap lkC++rest).toArray 108 (0,0))]] Tryz.func196 rfl Tryz.ntmps196 hs<|Sq<|Rg<|Le XA fun b3 _=>pA_ 4 ?_
   refine Qt<|pA_ 3 ?_
   refine Qv (Ld (v:= .int .i64 (R.length:Nat)))<|pA_ 3 ?_
   refine Qv (Ld (v:= .slice (some ⟨g,0,none⟩) R.length cap))<|Qv Ln<|Qv Cm<|QW.re 14 (.bool true) rfl (by simp)<|pA_ 8 ?_
   refine Lv (Ld (v:= .int .i64 (R.length:Nat)))<|Lv Ar<|Lv Ar<|LW.re 20 (.int .i64 ((2*R.length+1:Nat):Int)) rfl (by congr 1)<|Le (Eff.makeCap (m:=2*R.length+1) (by_:=48) (zl:=lkC lk0) rfl rfl Tryz.underlying104 kr_ Tryz.sizeOf108 (by exact Tryz.zeroValue108) kr_ rfl om_ om_ om_) fun b21 _=>pA_ 4 ?_
   refine Dr ([[(fb,.cells (rgC ⟨R,at_,R.length⟩ (some (g,rest,cap))).toArray 180 (0,0))]])<|pR_ [0,1,2,3] ?_
   refine Rv 4 rfl (Ld (v:= .slice (some ⟨g,0,none⟩) R.length cap))<|pR_ [5,6,7] ?_
   refine Rv 8 rfl (Ld (v:= .int .i64 (at_:Nat)))<|Rv 9 rfl (Val.slice (at_) (R.length) cap rfl Tryz.underlying104 Tryz.sizeOf108 ⟨_,rfl⟩ rfl rfl (fun _=>rfl) om_ om_ om_)<|Re 10 rfl (Eff.appendAny ((R.drop at_).flatMap lkC) (sz:=5) (bytes:=48) (z:= .agg #[.string ⟨#[]⟩,.int .u64 0,.int .u64 0,.int .i64 0,.int .i64 0]) (xs:=[]) (m0:=0) (o:=some (b21,V.repL (lkC lk0) (2*R.length+1),2*R.length+1)) (m:=R.length-at_) (pk:=[[(b21,.cells (V.repL (lkC lk0) (2*R.length+1)).toArray 108 (0,0))]]) rfl rfl Tryz.underlying104 kr_ rfl om_ pk_ (by rfl) ⟨rfl,by show _+(V.repL (lkC lk0) (2*R.length+1)).length=_;rw[V.repL_length];simp[lkC_len]⟩ (by rw[V.flatMap_len lkC_len,List.length_drop]) (fun hm0=>⟨g,at_*5,by rw[if_neg om_,Nat.zero_add],fun w hw=>V.range_of_block (o:=at_*5) (r:=rest) (hw.at (b:=g)) (lk_drop R at_ rest hr2)⟩) (all_one lkC_one _) om_ om_) ?_
   intro o1 ho1
   refine Rv 11 rfl Av<|pA_ 3 ?_
   refine Dr ([[(fb,.cells (rgC ⟨R,at_,R.length⟩ (some (g,rest,cap))).toArray 180 (0,0))]])<|pR_ [0,1,2,3] ?_
   refine Rv 4 rfl (Ld (v:= .slice (some ⟨g,0,none⟩) R.length cap))<|pR_ [5,6,7] ?_
   refine Rv 8 rfl (Ld (v:= .int .i64 (at_:Nat)))<|Rv 9 rfl (Val.slice (0) (at_) cap rfl Tryz.underlying104 Tryz.sizeOf108 rfl ⟨_,rfl⟩ rfl (fun _=>rfl) om_ om_ om_)<|RW.re 42 (.slice (some ⟨g,0,none⟩) at_ cap) rfl (by simp)<|Re 10 rfl (Eff.appendAny ((R.take at_).flatMap lkC) (sz:=5) (bytes:=48) (z:= .agg #[.string ⟨#[]⟩,.int .u64 0,.int .u64 0,.int .i64 0,.int .i64 0]) (xs:=([]:List Value)++(R.drop at_).flatMap lkC) (m0:=0+(R.length-at_)) (o:=o1) (m:=at_) (pk:=[ownG 108 (([]:List Value)++(R.drop at_).flatMap lkC) o1]) rfl rfl Tryz.underlying104 kr_ rfl om_ pk_ (by simp) ho1 (by rw[V.flatMap_len lkC_len,List.length_take];omega) (fun hm0=>⟨g,0,rfl,fun w hw=>V.range_of_block (o:=0) (hw.at (b:=g)) (lk_take R at_ rest)⟩) (all_one lkC_one _) om_ om_) fun o2 ho2=>Rv 11 rfl Av<|pA_ 6 ?_
   refine Lv Lw<|Le (Eff.buildSlice (rfl) [_,_,_,_,_] Tryz.underlying104 Tryz.sizeOf108 (by exact Tryz.zeroValue108) rfl rfl rfl rfl (by rfl)) fun b48 _=>Le (Eff.appendAny (lkC x) (sz:=5) (bytes:=48) (z:= .agg #[.string ⟨#[]⟩,.int .u64 0,.int .u64 0,.int .i64 0,.int .i64 0]) (xs:=([]++(R.drop at_).flatMap lkC)++(R.take at_).flatMap lkC) (m0:=0+(R.length-at_)+at_) (o:=o2) (m:=1) (pk:=[ownG 108 (([]++(R.drop at_).flatMap lkC)++(R.take at_).flatMap lkC) o2]) rfl rfl Tryz.underlying104 kr_ rfl om_ pk_ (by simp) ho2 (by rfl) (fun hm0=>⟨b48,0,rfl,fun w hw=>V.range_of_block (o:=0) (cs:=lkC x) (r:=[]) (hw.at (b:=b48)) (by rfl)⟩) (by rfl) om_ om_) ?_
   intro o3 ho3
   rw[hfl] at ho3⊢
   rw[← hln] at ho3
   refine LW.re 49 (ownV (R.drop at_++R.take at_++[x]).length o3) rfl (by rw[hln])<|Lv Nz<|Lv (Fa 0 104)<|LeN (StS (h1:=V.ownV_one _ _)) fun _ _=>Lv Nz<|Lv (Fa 1 3)<|LeN StS fun _ _=>pA_ 6 ?_
   refine Lv (Ld (v:= .int .i64 (R.length:Nat)))<|pA_ 3 ?_
   refine LeN StS fun _ _=>Nl<|PQ.end0 rfl fun w' hw=>?_
   exact⟨o3,⟨hpo,ho3⟩,rfl,hw.pick pk_⟩
  ·have ep:Rng.push ⟨R,at_,n⟩ x=⟨R.set (Rng.ix ⟨R,at_,n⟩ n) x,at_,n+1⟩:=by unfold Rng.push;exact if_neg hn
   rw[ep] at hpo⊢
   obtain⟨hix,hixl⟩:=ix_mod (r:=⟨R,at_,n⟩) ⟨hr1,hr2,hr3,hr4⟩ (i:=n) (by simp only;omega) (by simp only;omega)
   simp only at hix hixl
   obtain⟨y,hy⟩:∃y,R[Rng.ix ⟨R,at_,n⟩ n]? =some y:=⟨R[Rng.ix ⟨R,at_,n⟩ n],by simp⟩
   refine Cs_ [[(fb,.cells (rgC ⟨R,at_,n⟩ (some (g,rest,cap))).toArray 180 (0,0))],[(g,.cells (R.flatMap lkC++rest).toArray 108 (0,0))]] Tryz.func196 rfl Tryz.ntmps196 hs<|Sq<|Rg<|Le XA fun b3 _=>pA_ 4 ?_
   refine Qt<|pA_ 3 ?_
   refine Qv (Ld (v:= .int .i64 (n:Nat)))<|pA_ 3 ?_
   refine Qv (Ld (v:= .slice (some ⟨g,0,none⟩) R.length cap))<|Qv Ln<|Qv Cm<|QW.re 14 (.bool false) rfl (by congr 1;simp;omega)<|pA_ 3 ?_
   refine Dr ([[(fb,.cells (rgC ⟨R,at_,n⟩ (some (g,rest,cap))).toArray 180 (0,0))],[(b3,.cells (lkC x).toArray 108 (0,0))]])<|pR_ [0,1,2] ?_
   refine Rv 3 rfl (Ld (v:= .slice (some ⟨g,0,none⟩) R.length cap))<|pR_ [4,5,6] ?_
   refine Rv 7 rfl (Ld (v:= .int .i64 (at_:Nat)))<|pR_ [8,9,10] ?_
   refine Rv 11 rfl (Ld (v:= .int .i64 (n:Nat)))<|Rv 12 rfl Ar<|RW.re 66 (.int .i64 ((at_+n:Nat):Int)) rfl (by congr 1)<|pR_ [13,14,15] ?_
   refine Rv 16 rfl (Ld (v:= .slice (some ⟨g,0,none⟩) R.length cap))<|Rv 17 rfl Ln<|Rv 18 rfl (Val.rem rfl rfl om_)<|RW.re 72 (.int .i64 ((Rng.ix ⟨R,at_,n⟩ n):Nat)) rfl (by rw[mod_nat,hix])<|Rv 19 rfl Lw<|Rv 20 rfl (Val.indexAddrN (i:=(Rng.ix ⟨R,at_,n⟩ n)) rfl rfl Tryz.underlying104 Tryz.sizeOf108 hixl)<|ReN 21 rfl (Eff.storeA (cs:=lkC x) (l:=R.flatMap lkC++rest) (l':=(R.set (Rng.ix ⟨R,at_,n⟩ n) x).flatMap lkC++rest) rfl rfl up_ (by have h8:=splice_in lkC_len hy 0 (lkC x) (y:=x) (by rfl) (by simp[lkC_len]) rest;simpa using h8) (by rw[List.length_append,V.flatMap_len lkC_len];have:=Nat.mul_le_mul_right 5 (show(Rng.ix ⟨R,at_,n⟩ n)+1≤R.length from hixl);simp[lkC];omega) Tryz.sizeOf108 (by rfl)) ?_
   intro _ _
   refine pA_ 6 ?_
   refine Lv (Ld (v:= .int .i64 (n:Nat)))<|pA_ 3 ?_
   refine LeN StS fun _ _=>Nl<|PQ.end0 rfl fun w' hw=>?_
   exact⟨some (g,rest,cap),⟨hpo,by rw[List.length_set];exact⟨by rw[V.flatMap_len lkC_len,List.length_set],by rw[V.flatMap_len lkC_len,List.length_set];exact hc2⟩⟩,rfl,by unfold rgS rgC;rw[List.length_set];exact hw.pick pk_⟩
end
section
attribute [local irreducible] V.CW V.LW V.QW V.RW V.PQ V.Val V.Eff V.Qcall
open V (str byC ownV ownG ownS ownOk)
instance:Cal Tryz.prog 269:=⟨Tryz.call269⟩
def frontV (q:List Lk):Value:= .tuple #[.agg (lkC (q.head?.getD lk0)).toArray,.bool q.head?.isSome]
theorem rg_none {r:Rng}(h:rgO r none):r.R=[]∧r.n=0∧r.at_=0:=by
 have h1:r.R=[]:=List.length_eq_zero_iff.1 h.2.2
 have h2:=h.1.1
 have h3:=h.1.2.1
 rw[h1] at h2 h3
 simp only[List.length_nil] at h2 h3
 exact⟨h1,by omega,by omega⟩
theorem head_n0 {r:Rng}(h:r.n=0):rgQ r=[]:=List.length_eq_zero_iff.1 (by rw[rgQ_len];exact h)
theorem flk_at {R:List Lk}{rest:List Value}{i:Nat}{y:Lk}(h:R[i]? =some y):∃r,(R.flatMap lkC++rest).drop (0+i*5)=lkC y++r:=by
 obtain⟨r2,h2⟩:=V.drop_flatMap lkC_len R i y h
 have hi:=(List.getElem?_eq_some_iff.1 h).1
 refine⟨r2++rest,?_⟩
 rw[Nat.zero_add,List.drop_append_of_le_length (by rw[V.flatMap_len lkC_len];omega),h2,List.append_assoc]
theorem rhead_c (fb:Nat)(r:Rng)(o:V.OwnO)(hr:rgO r o):Rx Tryz.prog 269 [.pointer (some ⟨fb,0,none⟩)] (rgS 180 fb r o) (frontV (rgQ r)):=by
 intro w hs
 obtain⟨R,at_,n⟩:=r
 have hok:=hr.1
 rcases o with _|⟨g,rest,cap⟩
 ·obtain⟨h1,h2,h3⟩:=rg_none hr
  simp only at h1 h2 h3
  subst h1;subst h2;subst h3
  refine Cs_ [[(fb,.cells (rgC ⟨[],0,0⟩ none).toArray 180 (0,0))],ownG 108 (([]:List Lk).flatMap lkC) none] Tryz.func269 rfl Tryz.ntmps269 hs<|Sq<|Rg<|Le AA fun b2 _=>Lv Av<|Nl<|Ps<|Sq<|Sq<|Rg<|Lv Mv<|Lv Nz<|Lv (Fa 2 3)<|Lv (Ld (v:= .int .i64 0))<|Lv Cm<|LW.re 8 (.bool true) rfl (by rfl)<|Nl<|Ps<|Ct<|Sq<|Rg<|Lv Lw<|LeN StW fun _ _=>Lv Av<|Nl<|Ps<|Rt<|Tr<|PQ.retCT (l:=lkC lk0) rfl rfl rfl in_ Tryz.isAgg108 (by exact Tryz.sizeOf108) ?_
  rw[head_n0 (r:=⟨[],0,0⟩) rfl]
  exact fr_ hs
 ·obtain⟨hc1,hc2⟩:=own_cap hr.2
  by_cases hn:n=0
  ·subst hn
   refine Cs_ [[(fb,.cells (rgC ⟨R,at_,0⟩ (some (g,rest,cap))).toArray 180 (0,0))],[(g,.cells (R.flatMap lkC++rest).toArray 108 (0,0))]] Tryz.func269 rfl Tryz.ntmps269 hs<|Sq<|Rg<|Le AA fun b2 _=>Lv Av<|Nl<|Ps<|Sq<|Sq<|Rg<|Lv Mv<|Lv Nz<|Lv (Fa 2 3)<|Lv (Ld (v:= .int .i64 0))<|Lv Cm<|LW.re 8 (.bool true) rfl (by rfl)<|Nl<|Ps<|Ct<|Sq<|Rg<|Lv Lw<|LeN StW fun _ _=>Lv Av<|Nl<|Ps<|Rt<|Tr<|PQ.retCT (l:=lkC lk0) rfl rfl rfl in_ Tryz.isAgg108 (by exact Tryz.sizeOf108) ?_
   rw[head_n0 (r:=⟨R,at_,0⟩) rfl]
   exact fr_ hs
  ·have hat:at_<R.length:=hok.2.2.1 (by have:=hok.1;simp only at this;show 0<R.length;omega)
   have hq:=Rng.head_Q hok (by show 0<n;omega)
   obtain⟨y,hy⟩:∃y,R[at_]? =some y:=⟨R[at_],by simp⟩
   obtain⟨r2,hr2⟩:=flk_at (rest:=rest) hy
   have hhv:frontV (rgQ ⟨R,at_,n⟩)= .tuple #[.agg (lkC y).toArray,.bool true]:=by unfold frontV;rw[hq,hy];rfl
   rw[hhv]
   refine Cs_ [[(fb,.cells (rgC ⟨R,at_,n⟩ (some (g,rest,cap))).toArray 180 (0,0))],[(g,.cells (R.flatMap lkC++rest).toArray 108 (0,0))]] Tryz.func269 rfl Tryz.ntmps269 hs<|Sq<|Rg<|Le AA fun b2 _=>Lv Av<|Nl<|Ps<|Sq<|Sq<|Rg<|Lv Mv<|Lv Nz<|Lv (Fa 2 3)<|Lv (Ld (v:= .int .i64 (n:Nat)))<|Lv Cm<|LW.re 8 (.bool false) rfl (by congr 1;simp;omega)<|Nl<|Ps<|Cf<|Sk<|Ps<|Sq<|Dr ([[(fb,.cells (rgC ⟨R,at_,n⟩ (some (g,rest,cap))).toArray 180 (0,0))],[(g,.cells (R.flatMap lkC++rest).toArray 108 (0,0))]])<|Rv 0 rfl Mv<|Rv 1 rfl Nz<|Rv 2 rfl (Fa 0 104)<|Rv 3 rfl (Ld (v:= .slice (some ⟨g,0,none⟩) R.length cap))<|Rv 4 rfl Mv<|Rv 5 rfl Nz<|Rv 6 rfl (Fa 1 3)<|Rv 7 rfl (Ld (v:= .int .i64 (at_:Nat)))<|Rv 8 rfl (Val.indexAddrN (i:=at_) rfl rfl Tryz.underlying104 Tryz.sizeOf108 hat)<|Rv 9 rfl (La (lkC y) (hl:=hr2))<|ReN 10 rfl StW fun _ _=>Rv 11 rfl Av<|Rd<|Ps<|Rt<|PQ.retCT (l:=lkC y) rfl rfl rfl in_ Tryz.isAgg108 (by exact Tryz.sizeOf108) ?_
   exact fr_ hs
theorem rpop_c (fb:Nat)(r:Rng)(o:V.OwnO)(hr:rgO r o):Mo Tryz.prog 273 [.pointer (some ⟨fb,0,none⟩)] (rgS 180 fb r o) (fun o2:V.OwnO=>rgO r.pop o2) (fun _=>frontV (rgQ r)) (fun o2=>rgS 180 fb r.pop o2):=by
 intro w hs
 have hpo:=Rng.pop_ok hr.1
 by_cases hn:r.n=0
 ·have ep:r.pop=r:=by unfold Rng.pop;rw[if_pos hn]
  have eq:frontV (rgQ r)= .tuple #[.agg (lkC lk0).toArray,.bool false]:=by rw[head_n0 hn];rfl
  rw[ep]
  refine Ca_ Tryz.func273 rfl Tryz.ntmps273 hs<|Sq<|Rg<|Le AA fun b2 _=>Lv Av<|Nl<|Ps<|Sq<|Rg<|Lv Mv<|Le (Cr_ (rhead_c fb r o hr)) fun _ _=>LW.re 9 (.tuple #[.agg (lkC lk0).toArray,.bool false]) rfl eq<|Lv Mv<|Lv Ex<|Lv Ex<|Le AA fun b4 _=>LeN (StW (cs:=lkC lk0)) fun _ _=>Lv Av<|Nl<|Ps<|Sq<|Sq<|Rg<|Lv Mv<|Nl<|Ps<|Cf<|Sk<|Ps<|Sq<|Rg<|Lv Lw<|Lv Mv<|LeN (StW (cs:=lkC lk0)) fun _ _=>Lv Av<|Nl<|Ps<|Rt<|PQ.retCT (l:=lkC lk0) rfl rfl rfl in_ Tryz.isAgg108 (by exact Tryz.sizeOf108) ?_
  rw[eq]
  exact fi_ o hr
 ·obtain⟨R,at_,n⟩:=r
  simp only at hn
  have hok:=hr.1
  rcases o with _|⟨g,rest,cap⟩
  ·exact absurd (rg_none hr).2.1 hn
  obtain⟨hc1,hc2⟩:=own_cap hr.2
  have hat:at_<R.length:=hok.2.2.1 (by have:=hok.1;simp only at this;show 0<R.length;omega)
  have hrl:R.length≤100000:=hok.2.2.2
  have hnl:n≤R.length:=hok.1
  have hq:=Rng.head_Q hok (by show 0<n;omega)
  obtain⟨y,hy⟩:∃y,R[at_]? =some y:=⟨R[at_],by simp⟩
  have eq:frontV (rgQ ⟨R,at_,n⟩)= .tuple #[.agg (lkC y).toArray,.bool true]:=by unfold frontV;rw[hq,hy];rfl
  have ep:Rng.pop ⟨R,at_,n⟩=⟨R.set at_ lk0,Rng.ix ⟨R,at_,n⟩ 1,n-1⟩:=by unfold Rng.pop;exact if_neg hn
  obtain⟨hix,hixl⟩:=ix_mod (r:=⟨R,at_,n⟩) hok (i:=1) (by show 1≤R.length;omega) (by show 0<R.length;omega)
  simp only at hix hixl
  rw[ep] at hpo⊢
  refine Cs_ [[(fb,.cells (rgC ⟨R,at_,n⟩ (some (g,rest,cap))).toArray 180 (0,0))],[(g,.cells (R.flatMap lkC++rest).toArray 108 (0,0))]] Tryz.func273 rfl Tryz.ntmps273 hs<|Sq<|Rg<|Le AA fun b2 _=>pA_ 6 ?_
  refine Le (Cr_ (rhead_c fb ⟨R,at_,n⟩ (some (g,rest,cap)) hr)) fun _ _=>LW.re 9 (.tuple #[.agg (lkC y).toArray,.bool true]) rfl eq<|pA_ 3 ?_
  refine Le AA fun b4 _=>LeN (StW (cs:=lkC y)) fun _ _=>pA_ 12 ?_
  refine Le AA fun b6 _=>pA_ 3 ?_
  refine Dr ([[(fb,.cells (rgC ⟨R,at_,n⟩ (some (g,rest,cap))).toArray 180 (0,0))],[(b6,.cells (lkC lk0).toArray 108 (0,0))]])<|pR_ [0,1,2] ?_
  refine Rv 3 rfl (Ld (v:= .slice (some ⟨g,0,none⟩) R.length cap))<|pR_ [4,5,6] ?_
  refine Rv 7 rfl (Ld (v:= .int .i64 (at_:Nat)))<|Rv 8 rfl (Lw (l:=lkC lk0))<|Rv 9 rfl (Val.indexAddrN (i:=at_) rfl rfl Tryz.underlying104 Tryz.sizeOf108 hat)<|ReN 10 rfl (Eff.storeA (cs:=lkC lk0) (l:=R.flatMap lkC++rest) (l':=(R.set at_ lk0).flatMap lkC++rest) rfl rfl up_ (by have h8:=splice_in lkC_len hy 0 (lkC lk0) (y:=lk0) (by rfl) (by simp[lkC_len]) rest;simpa using h8) (by rw[List.length_append,V.flatMap_len lkC_len];have:=Nat.mul_le_mul_right 5 (show at_+1≤R.length from hat);simp[lkC];omega) Tryz.sizeOf108 (by rfl)) fun _ _=>pA_ 3 ?_
  refine Dr ([[(g,.cells ((R.set at_ lk0).flatMap lkC++rest).toArray 108 (0,0))]])<|pR_ [0,1,2,3,6,7,8] ?_
  refine RW.any [4,9] kr_ (by simp) fun i hi=>?_
  simp only[List.mem_cons,List.not_mem_nil,or_false] at hi
  rcases hi with rfl|rfl
  ·refine Ro rfl (Eff.ofVal (Ld (v:= .int .i64 (at_:Nat)))) fun _ _=>Rv 5 rfl Ar<|RW.re 28 (.int .i64 ((at_+1:Nat):Int)) rfl (by congr 1)<|Re 9 rfl (Eff.ofVal (Ld (v:= .slice (some ⟨g,0,none⟩) R.length cap))) fun _ _=>Rv 10 rfl Ln<|Rv 11 rfl (Val.rem rfl rfl om_)<|RW.re 34 (.int .i64 ((Rng.ix ⟨R,at_,n⟩ 1:Nat):Int)) rfl (by rw[mod_nat,hix])<|Rv 12 rfl Nz<|Rv 13 rfl (Fa 1 3)<|ReN 14 rfl StS fun _ _=>Rd<|Ps<|Rg<|Lv Mv<|Lv Nz<|Lv (Fa 2 3)<|Lv (Ld (v:= .int .i64 (n:Nat)))<|Lv Ar<|LW.re 41 (.int .i64 ((n-1:Nat):Int)) rfl (by congr 1;omega)<|Lv Nz<|Lv (Fa 2 3)<|LeN StS fun _ _=>Nl<|Ps<|Sq<|Rg<|Lv Lw<|Lv Mv<|LeN (StW (cs:=lkC y)) fun _ _=>Lv Av<|Nl<|Ps<|Rt<|PQ.retCT (l:=lkC y) rfl rfl rfl in_ Tryz.isAgg108 (by exact Tryz.sizeOf108) ?_
   rw[eq]
   intro w' hw
   exact⟨some (g,rest,cap),⟨hpo,by rw[List.length_set];exact⟨by rw[V.flatMap_len lkC_len,List.length_set],by rw[V.flatMap_len lkC_len,List.length_set];exact hc2⟩⟩,rfl,by unfold rgS rgC;rw[List.length_set];exact hw.pick pk_⟩
  ·refine Ro rfl (Eff.ofVal (Ld (v:= .slice (some ⟨g,0,none⟩) R.length cap))) fun _ _=>Rv 10 rfl Ln<|Re 4 rfl (Eff.ofVal (Ld (v:= .int .i64 (at_:Nat)))) fun _ _=>Rv 5 rfl Ar<|RW.re 28 (.int .i64 ((at_+1:Nat):Int)) rfl (by congr 1)<|Rv 11 rfl (Val.rem rfl rfl om_)<|RW.re 34 (.int .i64 ((Rng.ix ⟨R,at_,n⟩ 1:Nat):Int)) rfl (by rw[mod_nat,hix])<|Rv 12 rfl Nz<|Rv 13 rfl (Fa 1 3)<|ReN 14 rfl StS fun _ _=>Rd<|Ps<|Rg<|Lv Mv<|Lv Nz<|Lv (Fa 2 3)<|Lv (Ld (v:= .int .i64 (n:Nat)))<|Lv Ar<|LW.re 41 (.int .i64 ((n-1:Nat):Int)) rfl (by congr 1;omega)<|Lv Nz<|Lv (Fa 2 3)<|LeN StS fun _ _=>Nl<|Ps<|Sq<|Rg<|Lv Lw<|Lv Mv<|LeN (StW (cs:=lkC y)) fun _ _=>Lv Av<|Nl<|Ps<|Rt<|PQ.retCT (l:=lkC y) rfl rfl rfl in_ Tryz.isAgg108 (by exact Tryz.sizeOf108) ?_
   rw[eq]
   intro w' hw
   exact⟨some (g,rest,cap),⟨hpo,by rw[List.length_set];exact⟨by rw[V.flatMap_len lkC_len,List.length_set],by rw[V.flatMap_len lkC_len,List.length_set];exact hc2⟩⟩,rfl,by unfold rgS rgC;rw[List.length_set];exact hw.pick pk_⟩
end
section
attribute [local irreducible] V.CW V.LW V.QW V.RW V.PQ V.Val V.Eff V.Qcall
open V (str byC ownV ownG ownS ownOk)
instance:Cal Tryz.prog 72:=⟨Tryz.call72⟩
instance:Cal Tryz.prog 196:=⟨Tryz.call196⟩
instance:Cal Tryz.prog 273:=⟨Tryz.call273⟩
theorem rall_c (fb:Nat)(r:Rng)(o:V.OwnO)(hr:rgO r o):Mo Tryz.prog 72 [.pointer (some ⟨fb,0,none⟩)] (rgS 180 fb r o) (fun y:V.OwnO=>ownOk 5 (rgQ r).length ((rgQ r).flatMap lkC) y) (fun y=>ownV (rgQ r).length y) (fun y=>ownG 108 ((rgQ r).flatMap lkC) y::rgS 180 fb r o):=by
 intro w hs
 obtain⟨R,at_,n⟩:=r
 have hok:=hr.1
 rcases o with _|⟨g,rest,cap⟩
 ·obtain⟨h1,h2,h3⟩:=rg_none hr
  simp only at h1 h2 h3
  subst h1;subst h2;subst h3
  rw[head_n0 (r:=⟨[],0,0⟩) rfl]
  refine Cs_ [[(fb,.cells (rgC ⟨[],0,0⟩ none).toArray 180 (0,0))],ownG 108 (([]:List Lk).flatMap lkC) none] Tryz.func72 rfl Tryz.ntmps72 hs<|pA_ 16 ?_
  refine Lv (Ld (v:= .int .i64 0))<|pA_ 4 ?_
  refine CW.loopU 0<|pA_ 3 ?_
  refine LW.re 10 (.bool false) rfl (by rfl)<|pA_ 17 ?_
  intro w' hw;exact⟨none,⟨rfl,rfl⟩,rfl,hw.perm (.refl _)⟩
 ·obtain⟨hc1,hc2⟩:=own_cap hr.2
  have hrl:R.length≤100000:=hok.2.2.2
  have hnl:n≤R.length:=hok.1
  have hal:at_≤R.length:=hok.2.1
  have hql:(rgQ ⟨R,at_,n⟩).length=n:=rgQ_len _
  have htk:∀j,j≤n→((rgQ ⟨R,at_,n⟩).take j).length=j:=fun j hj=>by rw[List.length_take];omega
  refine Cs_ [[(fb,.cells (rgC ⟨R,at_,n⟩ (some (g,rest,cap))).toArray 180 (0,0))],[(g,.cells (R.flatMap lkC++rest).toArray 108 (0,0))]] Tryz.func72 rfl Tryz.ntmps72 hs<|pA_ 16 ?_
  refine Lv (Ld (v:= .int .i64 (n:Nat)))<|pA_ 4 ?_
  refine V.CW.perm (sg':=[ownG 108 (((rgQ ⟨R,at_,n⟩).take 0).flatMap lkC) none,[(fb,.cells (rgC ⟨R,at_,n⟩ (some (g,rest,cap))).toArray 180 (0,0))],[(g,.cells (R.flatMap lkC++rest).toArray 108 (0,0))]]) ?_ (.refl _)
  refine loopA (γ:=Nat×V.OwnO) (fun k=>[(0,.pointer (some ⟨fb,0,none⟩)),(3,ownV k.1 k.2),(8,.int .i64 (n:Nat)),(9,.int .i64 (k.1:Nat))]) (fun k=>[ownG 108 (((rgQ ⟨R,at_,n⟩).take k.1).flatMap lkC) k.2,[(fb,.cells (rgC ⟨R,at_,n⟩ (some (g,rest,cap))).toArray 180 (0,0))],[(g,.cells (R.flatMap lkC++rest).toArray 108 (0,0))]]) (fun k=>k.1≤n∧ownOk 5 k.1 (((rgQ ⟨R,at_,n⟩).take k.1).flatMap lkC) k.2) (fun k=>n-k.1) ((0,none)) ⟨Nat.zero_le _,⟨rfl,rfl⟩⟩ fun k=>?_
  rintro⟨hk1,hk2⟩
  refine pA_ 6 ?_
  refine Cd_ rfl (fun h10=>?_) fun h10=>?_
  ·have hk3:k.1<n:=by omega
   obtain⟨hix,hixl⟩:=ix_mod (r:=⟨R,at_,n⟩) hok (i:=k.1) (by show k.1≤R.length;omega) (by show 0<R.length;omega)
   simp only at hix hixl
   obtain⟨y,hy⟩:∃y,R[Rng.ix ⟨R,at_,n⟩ k.1]? =some y:=⟨R[Rng.ix ⟨R,at_,n⟩ k.1],by simp⟩
   obtain⟨r2,hr2⟩:=flk_at (rest:=rest) hy
   have hqk:(rgQ ⟨R,at_,n⟩)[k.1]? =some y:=by rw[rgQ_get,if_pos hk3,hy];rfl
   have hts:(rgQ ⟨R,at_,n⟩).take (k.1+1)=((rgQ ⟨R,at_,n⟩).take k.1)++[y]:=by rw[List.take_add_one,hqk];rfl
   refine Sk<|Ps<|Sq<|Bk<|Sq<|Rg<|Lv Mv<|Lv Av<|Nl<|Ps<|Dr ([[(fb,.cells (rgC ⟨R,at_,n⟩ (some (g,rest,cap))).toArray 180 (0,0))],[(g,.cells (R.flatMap lkC++rest).toArray 108 (0,0))]])<|Rv 0 rfl Mv<|Rv 1 rfl Mv<|Rv 2 rfl Nz<|Rv 3 rfl (Fa 0 104)<|Rv 4 rfl (Ld (v:= .slice (some ⟨g,0,none⟩) R.length cap))<|Rv 5 rfl Mv<|Rv 6 rfl Nz<|Rv 7 rfl (Fa 1 3)<|Rv 8 rfl (Ld (v:= .int .i64 (at_:Nat)))<|Rv 9 rfl Mv<|Rv 10 rfl Ar<|RW.re 22 (.int .i64 ((at_+k.1:Nat):Int)) rfl (by congr 1)<|Rv 11 rfl Mv<|Rv 12 rfl Nz<|Rv 13 rfl (Fa 0 104)<|Rv 14 rfl (Ld (v:= .slice (some ⟨g,0,none⟩) R.length cap))<|Rv 15 rfl Ln<|Rv 16 rfl (Val.rem rfl rfl om_)<|RW.re 28 (.int .i64 ((Rng.ix ⟨R,at_,n⟩ k.1:Nat):Int)) rfl (by rw[mod_nat,hix])<|Rv 17 rfl (Val.indexAddrN (i:=Rng.ix ⟨R,at_,n⟩ k.1) rfl rfl Tryz.underlying104 Tryz.sizeOf108 hixl)<|Rv 18 rfl (La (lkC y) (hl:=hr2))<|Re 19 rfl (Eff.buildSlice (rfl) [_,_,_,_,_] Tryz.underlying104 Tryz.sizeOf108 (by exact Tryz.zeroValue108) rfl rfl rfl rfl (by rfl)) fun b31 _=>Re 20 rfl (Eff.appendAny (lkC y) (sz:=5) (bytes:=48) (z:= .agg #[.string ⟨#[]⟩,.int .u64 0,.int .u64 0,.int .i64 0,.int .i64 0]) (xs:=((rgQ ⟨R,at_,n⟩).take k.1).flatMap lkC) (m0:=k.1) (o:=k.2) (m:=1) (pk:=[ownG 108 (((rgQ ⟨R,at_,n⟩).take k.1).flatMap lkC) (k.2)]) rfl rfl Tryz.underlying104 kr_ rfl om_ pk_ (by simp) hk2 (by rfl) (fun hm0=>⟨b31,0,rfl,fun w hw=>V.range_of_block (o:=0) (cs:=lkC y) (r:=[]) (hw.own _ (show InS (b31,.cells (lkC y).toArray 108 (0,0)) _ from in_).mem) rfl⟩) (by rfl) om_ om_) fun o2 ho2=>Rv 21 rfl Av<|Rd<|Bn<|Ps<|Rg<|Lv Ar<|Lv Mv<|Nl ?_
   rw[← show((rgQ ⟨R,at_,n⟩).take (k.1+1)).flatMap lkC=((rgQ ⟨R,at_,n⟩).take k.1).flatMap lkC++lkC y by rw[hts,List.flatMap_append];rfl]
   exact roundA ((k.1+1,o2)) ⟨by simp only;omega,by simp only;rw[hts,List.flatMap_append];exact ho2⟩ (by simp only;omega)
  ·refine pA_ 13 ?_
   have hk9:k.1=n:=by omega
   have hte:((rgQ ⟨R,at_,n⟩).take k.1)=rgQ ⟨R,at_,n⟩:=by rw[hk9];exact List.take_of_length_le om_
   rw[hte] at hk2⊢
   rw[hk9] at hk2
   intro w' hw;exact⟨k.2,by rw[hql];exact hk2,by rw[hql,hk9],hw.pick pk_⟩
theorem lhead_c (fb:Nat)(r:Rng)(o:V.OwnO)(hr:rgO r o):Rx Tryz.prog 249 [.pointer (some ⟨fb,0,none⟩)] (rgS 180 fb r o) (frontV (rgQ r)):=by
 intro w hs
 refine Ca_ Tryz.func249 rfl Tryz.ntmps249 hs<|Sq<|Rg<|Le AA fun b2 _=>Lv Av<|Nl<|Ps<|Sq<|Sq<|Rg<|Lv Mv<|Lv EP<|Nl<|Ps<|Cf<|Sk<|Ps<|Sq<|Rg<|Lv Mv<|Lv Nz<|Lv (Fa 0 178)<|Le (Cr_ (rhead_c fb r o hr)) fun _ _=>Lv Ex<|Lv Ex<|LeN (StW (cs:=lkC ((rgQ r).head?.getD lk0))) fun _ _=>Lv Av<|Nl<|Ps<|Rt<|PQ.retCT (l:=lkC ((rgQ r).head?.getD lk0)) rfl rfl rfl in_ Tryz.isAgg108 (by exact Tryz.sizeOf108) ?_
 exact fr_ hs
theorem lpop_c (fb:Nat)(r:Rng)(o:V.OwnO)(hr:rgO r o):Mo Tryz.prog 258 [.pointer (some ⟨fb,0,none⟩)] (rgS 180 fb r o) (fun o2:V.OwnO=>rgO r.pop o2) (fun _=>frontV (rgQ r)) (fun o2=>rgS 180 fb r.pop o2):=by
 intro w hs
 refine Ca_ Tryz.func258 rfl Tryz.ntmps258 hs<|Sq<|Rg<|Le AA fun b2 _=>Lv Av<|Nl<|Ps<|Sq<|Sq<|Rg<|Lv Mv<|Lv EP<|Nl<|Ps<|Cf<|Sk<|Ps<|Sq<|Rg<|Lv Mv<|Lv Nz<|Lv (Fa 0 178)<|Le (Cm_ (rpop_c fb r o hr)) fun o2 ho2=>Lv Ex<|Lv Ex<|LeN (StW (cs:=lkC ((rgQ r).head?.getD lk0))) fun _ _=>Lv Av<|Nl<|Ps<|Rt<|PQ.retCT (l:=lkC ((rgQ r).head?.getD lk0)) rfl rfl rfl in_ Tryz.isAgg108 (by exact Tryz.sizeOf108) ?_
 exact fi_ o2 ho2
theorem lpush_c (fb:Nat)(r:Rng)(o:V.OwnO)(x:Lk)(hr:rgO r o)(hm:r.R.length≤50000):Mo Tryz.prog 155 [.pointer (some ⟨fb,0,none⟩),.agg (lkC x).toArray] (rgS 180 fb r o) (fun o2:V.OwnO=>rgO (r.push x) o2) (fun _=> .tuple #[]) (fun o2=>rgS 180 fb (r.push x) o2):=by
 intro w hs
 refine Ca_ Tryz.func155 rfl Tryz.ntmps155 hs<|Sq<|Rg<|Le XA fun b3 _=>pA_ 9 ?_
 refine Dr ([[(b3,.cells (lkC x).toArray 108 (0,0))]])<|pR_ [0,1,2] ?_
 refine Rv 3 rfl (Lw (l:=lkC x))<|Re 4 rfl (Cm_ (rpush_c fb r o x hr hm)) fun o2 ho2=>Rd<|PQ.end0 rfl ?_
 exact fi_ o2 ho2
theorem lall_c (fb:Nat)(r:Rng)(o:V.OwnO)(hr:rgO r o)(w:World)(hs:Sat (rgS 180 fb r o) w):Calls Tryz.prog 37 [.pointer (some ⟨fb,0,none⟩)].toArray w fun e w'=>∃y:V.OwnO,ownOk 5 (rgQ r).length ((rgQ r).flatMap lkC) y∧e= .returned (ownV (rgQ r).length y)∧Hp ⟨w,V.ids ((rgS 180 fb r o))⟩ (ownG 108 ((rgQ r).flatMap lkC) y::rgS 180 fb r o) w':=by
 refine Cs_ (rgS 180 fb r o) Tryz.func37 rfl Tryz.ntmps37 hs<|pA_ 20 ?_
 refine Le (Cm_ (rall_c fb r o hr)) fun y hy=>pA_ 5 ?_
 exact fi_ y hy
theorem lnew_c:Mz Tryz.prog 58 [] (fun b:Nat=>True) (fun b=> .pointer (some ⟨b,0,none⟩)) (fun b=>rgS 180 b ⟨[],0,0⟩ none):=by
 intro w
 refine Cb_ Tryz.func58 rfl Tryz.ntmps58<|pA_ 7 ?_
 refine Lv (Bd [_,_,_])<|Le XA fun b2 _=>pA_ 5 ?_
 intro w' hw;exact⟨b2,trivial,rfl,hw.perm (by simp[rgC,V.ownG,V.ownS,V.ownV])⟩
theorem rg0_ok:rgO ⟨[],0,0⟩ none:=⟨⟨by simp,by simp,by simp,by simp⟩,rfl,rfl⟩
end
end G
end Go.Proofs.YtjidffamcdcecaaGreat
