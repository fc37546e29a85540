import Derived.Test.YtpjmdbifacijoaaGreatDoorQa3
/- What the law leans on, part 4. -/
namespace Go.Proofs.YtpjmdbifacijoaaGreatDoor
open Go Go.RowKit V
set_option linter.unusedVariables false
set_option maxRecDepth 100000
namespace G
open V (str byC ownV ownG ownS ownOk)
instance:Und Tryz.prog 298 (dOf Tryz.underlying298):=⟨Tryz.underlying298⟩
instance:Siz Tryz.prog 298 (kOf Tryz.sizeOf298):=⟨Tryz.sizeOf298⟩
instance:AgT Tryz.prog 298:=⟨Tryz.isAgg298⟩
instance:Zer Tryz.prog 298 (zOf Tryz.zeroValue298):=⟨Tryz.zeroValue298⟩
instance:Und Tryz.prog 473 (dOf Tryz.underlying473):=⟨Tryz.underlying473⟩
instance:Siz Tryz.prog 473 (kOf Tryz.sizeOf473):=⟨Tryz.sizeOf473⟩
instance:AgT Tryz.prog 473:=⟨Tryz.isAgg473⟩
instance:Zer Tryz.prog 473 (zOf Tryz.zeroValue473):=⟨Tryz.zeroValue473⟩
instance:Und Tryz.prog 474 (dOf Tryz.underlying474):=⟨Tryz.underlying474⟩
instance:Cal Tryz.prog 436:=⟨Tryz.call436⟩
theorem areaders_g (x:ArR)(s:ArS)(w:World)(ha:w.heap[x.a]? =some (.cells (arC x s).toArray 166 (0,0))):Calls Tryz.prog 318 [.pointer (some ⟨x.a,0,none⟩)].toArray w fun e w'=>e= .returned (.pointer (some ⟨x.rb,0,none⟩))∧Below w.heap.size w w':=by
 refine V.calls [] Tryz.func318 rfl Tryz.ntmps318 (Nat.le_of_ble_eq_true rfl) (V.sat_nil _)<|Sq<|Rg<|Lv Av<|Nl<|Ps<|Sq<|Sq<|Rg<|Lv Mv<|Lv EP<|Nl<|Ps<|Cf<|Sk<|Ps<|Sq<|Rg<|Lv Mv<|Lv Nz<|Lv (Fa 2 154)<|Lv (Val.loadO rfl Tryz.isAgg154 (V.lt_of_some ha) (by simp[ids]) (V.cell_of_block ha rfl))<|Lv Av<|Nl<|Ps<|Rt<|Rt1 ?_
 intro w' hw;exact⟨rfl,hw.below⟩
theorem aclock_g (x:ArR)(s:ArS)(w:World)(ha:w.heap[x.a]? =some (.cells (arC x s).toArray 166 (0,0))):Calls Tryz.prog 95 [.pointer (some ⟨x.a,0,none⟩)].toArray w fun e w'=>e= .returned (.pointer (some ⟨x.cb,0,none⟩))∧Below w.heap.size w w':=by
 refine V.calls [] Tryz.func95 rfl Tryz.ntmps95 (Nat.le_of_ble_eq_true rfl) (V.sat_nil _)<|Sq<|Rg<|Lv Av<|Nl<|Ps<|Sq<|Sq<|Rg<|Lv Mv<|Lv EP<|Nl<|Ps<|Cf<|Sk<|Ps<|Sq<|Rg<|Lv Mv<|Lv Nz<|Lv (Fa 3 155)<|Lv (Val.loadO rfl Tryz.isAgg155 (V.lt_of_some ha) (by simp[ids]) (V.cell_of_block ha rfl))<|Lv Av<|Nl<|Ps<|Rt<|Rt1 ?_
 intro w' hw;exact⟨rfl,hw.below⟩
theorem anumbers_g (x:ArR)(s:ArS)(w:World)(hs:Sat [[(x.a,.cells (arC x s).toArray 166 (0,0))]] w):Calls Tryz.prog 440 [.pointer (some ⟨x.a,0,none⟩)].toArray w fun e w'=>e= .returned (.tuple #[.int .u64 s.id,.int .u64 s.ver])∧Below w.heap.size w w':=by
 refine V.calls [[(x.a,.cells (arC x s).toArray 166 (0,0))]] Tryz.func440 rfl Tryz.ntmps440 (Nat.le_of_ble_eq_true rfl) hs<|Sq<|Rg<|Lv Av<|Lv Av<|Nl<|Ps<|Sq<|Sq<|Rg<|Lv Mv<|Lv EP<|Nl<|Ps<|Cf<|Sk<|Ps<|Sq<|Qt<|Qv Mv<|Qv Nz<|Qv (Fa 8 164)<|Qc (QV fun w hw=>uLd_c x.a 8 (arC x s) 166 s.id w rfl (hw.sat.pick (ss:=[[(x.a,.cells (arC x s).toArray 166 (0,0))]]) (by repeat(first|exact .nil|apply Pick.cons|exact .here|apply Ext.there))))<|Qv Mv<|Qv Nz<|Qv (Fa 9 164)<|Qc (QV fun w hw=>uLd_c x.a 9 (arC x s) 166 s.ver w rfl (hw.sat.pick (ss:=[[(x.a,.cells (arC x s).toArray 166 (0,0))]]) (by repeat(first|exact .nil|apply Pick.cons|exact .here|apply Ext.there))))<|Qv Av<|Qv Av<|Ql<|Ps<|Rt<|Rt2 ?_
 intro w' hw;exact⟨rfl,hw.ro (by repeat(first|exact .nil|apply Pick.cons|exact .here|apply Ext.there)) hs⟩
structure Chg where
 kind:Int
 key:List UInt8
 val:List UInt8
 had:Bool
 old:Lk
 line:Int
 cls:Int
def chC (x:Chg):List Value:= .int .i64 x.kind::str x.key::str x.val:: .bool x.had::(lkC x.old++[.int .i64 x.line,.int .i64 x.cls])
theorem chC_len (x:Chg):(chC x).length=11:=rfl
def chV (x:Chg):Value:= .agg (chC x).toArray
def mapB (x:Chg):Bool:=decide (x.kind=2)||decide (x.kind=3)
def needB (x:Chg):Bool:= !decide (x.kind=3)||x.had
def allPre {α:Type}(f:List α→α→Bool):List α→List α→Bool
 |_,[]=>true
 |p,x::r=>f p x&&allPre f (p++[x]) r
theorem allPre_step {α:Type}{f:List α→α→Bool}{l:List α}{k:Nat}{x:α}(h:l[k]? =some x):allPre f (l.take k) (l.drop k)=(f (l.take k) x&&allPre f (l.take (k+1)) (l.drop (k+1))):=by
 obtain⟨h1,h2⟩:=List.getElem?_eq_some_iff.1 h
 rw[List.drop_eq_getElem_cons h1,h2,allPre,List.take_succ_eq_append_getElem h1,h2]
def clash (x y:Chg):Bool:=(mapB x&&mapB y&&decide (x.key=y.key))||(decide (x.kind=5)&&decide (y.kind=5))
def kdOk (x:Chg):Bool:=decide (x.kind=2)||decide (x.kind=3)||decide (x.kind=4)||(decide (x.kind=5)&&x.had)
def shOne (p:List Chg)(x:Chg):Bool:=kdOk x&& !p.any (clash x)
def shapeB (l:List Chg):Bool:=decide (1≤l.length∧l.length≤3)&&allPre shOne [] l
theorem any_take {α:Type}{g:α→Bool}{l:List α}{i:Nat}{y:α}(h:l[i]? =some y):(l.take (i+1)).any g=((l.take i).any g||g y):=by
 rw[List.take_add_one,h,Option.toList_some,List.any_append]
 simp
theorem mapped_c (x:Chg)(w:World):Calls Tryz.prog 436 [chV x].toArray w fun e w'=>e= .returned (.bool (mapB x))∧Below w.heap.size w w':=by
 refine V.calls [] Tryz.func436 rfl Tryz.ntmps436 (Nat.le_of_ble_eq_true rfl) (V.sat_nil _)<|Sq<|Rg<|Le XA fun b1 _=>Lv Av<|Nl<|Ps<|Sq<|Rg<|Lv (Fa 0 3)<|Lv Ld<|Lv Cm<|Lv Mv ?_
 refine LW.split (d:=6) rfl (fun h6=>?_) (fun h6=>?_)
 ·replace h6:=bT h6
  refine Lp<|Lp<|Lp<|Lv Pt<|Lv Av<|Nl<|Ps<|Rt<|Rt1 ?_
  intro w' hw;exact⟨by congr 2;rw[Bool.eq_iff_iff];simp[mapB,h6],hw.below⟩
 ·replace h6:=bF h6
  refine Lv (Fa 0 3)<|Lv Ld<|Lv Cm<|Lv Pf<|Lv Av<|Nl<|Ps<|Rt<|Rt1 ?_
  intro w' hw;exact⟨by congr 2;rw[Bool.eq_iff_iff];simp[mapB,h6],hw.below⟩
theorem needs_c (x:Chg)(w:World):Calls Tryz.prog 409 [chV x].toArray w fun e w'=>e= .returned (.bool (needB x))∧Below w.heap.size w w':=by
 refine V.calls [] Tryz.func409 rfl Tryz.ntmps409 (Nat.le_of_ble_eq_true rfl) (V.sat_nil _)<|Sq<|Rg<|Le XA fun b1 _=>Lv Av<|Nl<|Ps<|Sq<|Rg<|Lv (Fa 0 3)<|Lv Ld<|Lv Cm<|Lv Mv ?_
 refine LW.split (d:=6) rfl (fun h6=>?_) (fun h6=>?_)
 ·replace h6:=bT h6
  refine Lp<|Lp<|Lv Pt<|Lv Av<|Nl<|Ps<|Rt<|Rt1 ?_
  intro w' hw;exact⟨by congr 2;rw[Bool.eq_iff_iff];simp[needB,h6],hw.below⟩
 ·replace h6:=bF h6
  refine Lv (Fa 3 4)<|Lv Ld<|Lv Pf<|Lv Av<|Nl<|Ps<|Rt<|Rt1 ?_
  intro w' hw;exact⟨by congr 2;rw[Bool.eq_iff_iff];simp[needB,h6],hw.below⟩
theorem any_false2 {α:Type}{g:α→Bool}{l:List α}{i:Nat}{y:α}(h:l[i]? =some y)(hg:g y=true):l.any g=true:=List.any_eq_true.2 ⟨y,List.mem_of_getElem? h,hg⟩
theorem shaped_c (l:List Chg)(p:Option Addr)(c:Nat)(hl:l.length≤c∧l.length≤1000)(w:World)(h:V.slAt w p 11 chC l):Calls Tryz.prog 405 [.slice p l.length c].toArray w fun e w'=>e= .returned (.bool (shapeB l))∧Below w.heap.size w w':=by
 refine V.calls [] Tryz.func405 rfl Tryz.ntmps405 (Nat.le_of_ble_eq_true rfl) (V.sat_nil _)<|Sq<|Rg<|Lv Av<|Nl<|Ps<|Sq<|Sq<|Rg<|Lv Mv<|Lv Ln<|Lv Cm<|Lv Mv ?_
 refine LW.split (d:=10) rfl (fun h10=>?_) (fun h10=>?_)
 ·replace h10:=bT h10
  refine Lp<|Lp<|Lp<|Lv Pt<|Nl<|Ps<|Ct<|Sq<|Rg<|Lv Av<|Nl<|Ps<|Rt<|Tr<|Rt1 ?_
  have e1:shapeB l=false:=by unfold shapeB;rw[decide_eq_false (by omega)];rfl
  rw[e1]
  intro w' hw;exact⟨rfl,hw.below⟩
 ·replace h10:=bF h10
  refine Lv Mv<|Lv Ln<|Lv Cm<|Lv Pf<|Nl<|Ps ?_
  refine CW.cond rfl (fun h14=>?_) (fun h14=>?_)
  ·replace h14:=bT h14
   refine Sq<|Rg<|Lv Av<|Nl<|Ps<|Rt<|Tr<|Rt1 ?_
   have e1:shapeB l=false:=by unfold shapeB;rw[decide_eq_false (by omega)];rfl
   rw[e1]
   intro w' hw;exact⟨rfl,hw.below⟩
  ·replace h14:=bF h14
   refine Sk<|Ps<|Sq<|Sq<|Rg<|Lv Mv<|Lv Ln<|Lv Mv<|Nl<|Ps<|Bk<|loopA (γ:=Nat) (fun k=>[(0,.slice p l.length c),(15,.slice p l.length c),(16,.int .i64 (l.length:Nat)),(17,.int .i64 (k:Nat))]) (fun _=>[]) (fun k=>k≤l.length∧allPre shOne [] l=allPre shOne (l.take k) (l.drop k)) (fun k=>l.length-k) (0) ⟨Nat.zero_le _,rfl⟩ fun k=>?_
   rintro⟨hk1,hk2⟩
   refine Sq<|Rg<|Lv Cm<|Nl<|Ps<|Sq ?_
   refine CW.cond rfl (fun h18=>?_) (fun h18=>?_)
   ·replace h18:=bT h18
    obtain⟨b1,o1,x,rfl,hb1,hx1,hr1⟩:=V.slAt_at h rfl (k:=k) (by omega)
    have hst:=allPre_step (f:=shOne) hx1
    refine Sk<|Ps<|Sq<|Bk<|Sq<|Rg<|Lv Mv<|Lv (Val.indexAddrN (i:=k) rfl rfl Tryz.underlying474 Tryz.sizeOf473 (by omega))<|Lv (Val.loadOA (cs:=chC x) rfl Tryz.isAgg473 hb1 (by simp[ids]) (hr1 (k) _ hx1) Tryz.sizeOf473)<|Le AA fun b4 _=>Lv Av<|LeN (StW (cs:=chC x)) fun _ _=>Nl<|Ps<|Sq ?_
    refine CW.join (fun _:Unit=>kdOk x=true) (fun _=>[(0,.slice (some ⟨b1,o1,none⟩) l.length c),(3,.int .i64 (k:Nat)),(4,.pointer (some ⟨b4,0,none⟩)),(15,.slice (some ⟨b1,o1,none⟩) l.length c),(16,.int .i64 (l.length:Nat)),(17,.int .i64 (k:Nat))]) (fun _=>[[(b4,.cells (chC x).toArray 473 (0,0))]]) ?_ ?_
    ·refine Sq<|Rg<|Lv (Fa 0 3)<|Lv Ld<|Nl<|Ps<|Bk<|Sq<|Sq<|Rg<|Lv Cm<|Lv Av<|Nl<|Ps ?_
     refine CW.cond rfl (fun h24=>?_) (fun h24=>?_)
     ·replace h24:=bT h24
      refine Sk<|Ps<|CW.cond_t (congrArg (fun b=>some (Value.bool b)) (show _=true by simpa using h24))<|Sk<|Bn ?_
      exact joinC (()) (by unfold kdOk;simp_all)
     ·replace h24:=bF h24
      refine Sq<|Rg<|Lv Cm<|Lv Av<|Nl<|Ps ?_
      refine CW.cond rfl (fun h24=>?_) (fun h24=>?_)
      ·replace h24:=bT h24
       refine Sk<|Ps<|CW.cond_t (congrArg (fun b=>some (Value.bool b)) (show _=true by simpa using h24))<|Sk<|Bn ?_
       exact joinC (()) (by unfold kdOk;simp_all)
      ·replace h24:=bF h24
       refine Rg<|Lv Cm<|Lv Av<|Nl<|Ps ?_
       refine CW.cond rfl (fun h24=>?_) (fun h24=>?_)
       ·replace h24:=bT h24
        refine Sk<|Bn ?_
        exact joinC (()) (by unfold kdOk;simp_all)
       ·replace h24:=bF h24
        refine Sq<|Rg<|Lv Cm<|Lv Av<|Nl<|Ps ?_
        refine CW.cond rfl (fun h28=>?_) (fun h28=>?_)
        ·replace h28:=bT h28
         refine Sq<|Rg<|Lv (Fa 3 4)<|Lv Ld<|Lv Nt<|Nl<|Ps ?_
         refine CW.cond rfl (fun h32=>?_) (fun h32=>?_)
         ·replace h32:=bT h32
          refine Sq<|Rg<|Lv Av<|Nl<|Ps<|Rt<|Br<|Tr<|Br<|Tr<|Tr<|Br<|Tr<|Rt1 ?_
          have e2:shOne (l.take k) x=false:=by unfold shOne kdOk;simp_all
          have e1:shapeB l=false:=by unfold shapeB;rw[hk2,hst,e2];simp
          rw[e1]
          intro w' hw;exact⟨rfl,hw.below⟩
         ·replace h32:=bF h32
          refine Sk<|Bn ?_
          exact joinC (()) (by unfold kdOk;simp_all)
        ·replace h28:=bF h28
         refine Sq<|Rg<|Lv Av<|Nl<|Ps<|Rt<|Br<|Tr<|Br<|Tr<|Tr<|Br<|Tr<|Rt1 ?_
         have e2:shOne (l.take k) x=false:=by unfold shOne kdOk;simp_all
         have e1:shapeB l=false:=by unfold shapeB;rw[hk2,hst,e2];simp
         rw[e1]
         intro w' hw;exact⟨rfl,hw.below⟩
    ·intro _ hkd
     refine Ps<|Sq<|Rg<|Lv Mv<|Lv Mv<|Lv (Val.slice 0 k c rfl Tryz.underlying474 Tryz.sizeOf473 rfl ⟨_,rfl⟩ rfl (fun h=>by cases h) (by omega) (by omega) (by omega))<|LW.re 35 (.slice (some ⟨b1,o1,none⟩) k c) rfl (by simp)<|Lv Ln<|Lv Mv<|Nl<|Ps<|Bk<|loopA (γ:=Nat) (fun i=>[(0,.slice (some ⟨b1,o1,none⟩) l.length c),(3,.int .i64 (k:Nat)),(4,.pointer (some ⟨b4,0,none⟩)),(15,.slice (some ⟨b1,o1,none⟩) l.length c),(16,.int .i64 (l.length:Nat)),(17,.int .i64 (k:Nat)),(35,.slice (some ⟨b1,o1,none⟩) k c),(36,.int .i64 (k:Nat)),(37,.int .i64 (i:Nat))]) (fun i=>[[(b4,.cells (chC x).toArray 473 (0,0))]]) (fun i=>i≤k∧(l.take i).any (clash x)=false) (fun i=>k-i) (0) ⟨Nat.zero_le _,rfl⟩ fun i=>?_
     rintro⟨hi1,hi2⟩
     refine Sq<|Rg<|Lv Cm<|Nl<|Ps<|Sq ?_
     refine CW.cond rfl (fun h38=>?_) (fun h38=>?_)
     ·replace h38:=bT h38
      obtain⟨y,hy⟩:∃y,l[i]? =some y:=⟨l[i]'(by omega),by simp⟩
      refine Sk<|Ps<|Sq<|Bk<|Sq<|Rg<|Lv (Val.indexAddrN (i:=i) rfl rfl Tryz.underlying474 Tryz.sizeOf473 (by omega))<|Lv (Val.loadOA (cs:=chC y) rfl Tryz.isAgg473 hb1 (by simp[ids]) (hr1 (i) _ hy) Tryz.sizeOf473)<|Le AA fun b6 _=>LeN (StW (cs:=chC y)) fun _ _=>Nl<|Ps<|Sq<|Rg<|Lv (Lw (l:=chC x))<|Le (CV fun w hw=>mapped_c x w) fun _ _=>Lv Mv ?_
      refine LW.split (d:=43) rfl (fun h43=>?_) (fun h43=>?_)
      ·replace h43:=bT h43
       refine Lv (Lw (l:=chC y))<|Le (CV fun w hw=>mapped_c y w) fun _ _=>Lv Pt<|Lv Mv ?_
       refine LW.split (d:=47) rfl (fun h47=>?_) (fun h47=>?_)
       ·replace h47:=bT h47
        refine Lv (Fa 1 9)<|Lv Ld<|Lv (Fa 1 9)<|Lv Ld<|Lv ES<|Lv Pt<|Lv Mv ?_
        refine LW.split (d:=54) rfl (fun h54=>?_) (fun h54=>?_)
        ·replace h54:=bT h54
         refine Lp<|Lp<|Lp<|Lp<|Lp<|Lp<|Lp<|Lp<|Lv Pt<|Nl<|Ps<|Ct<|Sq<|Rg<|Lv Av<|Nl<|Ps<|Rt<|Br<|Tr<|Tr<|Br<|Br<|Tr<|Tr<|Br<|Tr<|Rt1 ?_
         have e2:shOne (l.take k) x=false:=by unfold shOne;rw[any_false2 (i:=i) (y:=y) (by rw[List.getElem?_take_of_lt (by omega)];exact hy) (by unfold clash;simp_all)];simp
         have e1:shapeB l=false:=by unfold shapeB;rw[hk2,hst,e2];simp
         rw[e1]
         intro w' hw;exact⟨rfl,hw.below⟩
        ·replace h54:=bF h54
         refine Lv (Fa 0 3)<|Lv Ld<|Lv Cm<|Lv Mv ?_
         refine LW.split (d:=58) rfl (fun h58=>?_) (fun h58=>?_)
         ·replace h58:=bT h58
          refine Lv (Fa 0 3)<|Lv Ld<|Lv Cm<|Lv Pt<|Lv Pf<|Nl<|Ps ?_
          refine CW.cond rfl (fun h63=>?_) (fun h63=>?_)
          ·replace h63:=bT h63
           refine Sq<|Rg<|Lv Av<|Nl<|Ps<|Rt<|Br<|Tr<|Tr<|Br<|Br<|Tr<|Tr<|Br<|Tr<|Rt1 ?_
           have e2:shOne (l.take k) x=false:=by unfold shOne;rw[any_false2 (i:=i) (y:=y) (by rw[List.getElem?_take_of_lt (by omega)];exact hy) (by unfold clash;simp_all)];simp
           have e1:shapeB l=false:=by unfold shapeB;rw[hk2,hst,e2];simp
           rw[e1]
           intro w' hw;exact⟨rfl,hw.below⟩
          ·replace h63:=bF h63
           refine Sk<|Bn<|Ps<|Rg<|Lv Ar<|Lv Mv<|Nl ?_
           exact roundA (i+1) ⟨by omega,by rw[any_take hy,hi2,Bool.false_or];unfold clash;simp_all⟩ (by omega)
         ·replace h58:=bF h58
          refine Lp<|Lp<|Lp<|Lv Pf<|Lv Pf<|Nl<|Ps<|Cf<|Sk<|Bn<|Ps<|Rg<|Lv Ar<|Lv Mv<|Nl ?_
          exact roundA (i+1) ⟨by omega,by rw[any_take hy,hi2,Bool.false_or];unfold clash;simp_all⟩ (by omega)
       ·replace h47:=bF h47
        refine Lp<|Lp<|Lp<|Lp<|Lp<|Lv Pf<|Lv Mv<|Lv (Fa 0 3)<|Lv Ld<|Lv Cm<|Lv Mv ?_
        refine LW.split (d:=58) rfl (fun h58=>?_) (fun h58=>?_)
        ·replace h58:=bT h58
         refine Lv (Fa 0 3)<|Lv Ld<|Lv Cm<|Lv Pt<|Lv Pf<|Nl<|Ps ?_
         refine CW.cond rfl (fun h63=>?_) (fun h63=>?_)
         ·replace h63:=bT h63
          refine Sq<|Rg<|Lv Av<|Nl<|Ps<|Rt<|Br<|Tr<|Tr<|Br<|Br<|Tr<|Tr<|Br<|Tr<|Rt1 ?_
          have e2:shOne (l.take k) x=false:=by unfold shOne;rw[any_false2 (i:=i) (y:=y) (by rw[List.getElem?_take_of_lt (by omega)];exact hy) (by unfold clash;simp_all)];simp
          have e1:shapeB l=false:=by unfold shapeB;rw[hk2,hst,e2];simp
          rw[e1]
          intro w' hw;exact⟨rfl,hw.below⟩
         ·replace h63:=bF h63
          refine Sk<|Bn<|Ps<|Rg<|Lv Ar<|Lv Mv<|Nl ?_
          exact roundA (i+1) ⟨by omega,by rw[any_take hy,hi2,Bool.false_or];unfold clash;simp_all⟩ (by omega)
        ·replace h58:=bF h58
         refine Lp<|Lp<|Lp<|Lv Pf<|Lv Pf<|Nl<|Ps<|Cf<|Sk<|Bn<|Ps<|Rg<|Lv Ar<|Lv Mv<|Nl ?_
         exact roundA (i+1) ⟨by omega,by rw[any_take hy,hi2,Bool.false_or];unfold clash;simp_all⟩ (by omega)
      ·replace h43:=bF h43
       refine Lp<|Lp<|Lv Pf<|Lv Mv<|Lp<|Lp<|Lp<|Lp<|Lp<|Lv Pf<|Lv Mv<|Lv (Fa 0 3)<|Lv Ld<|Lv Cm<|Lv Mv ?_
       refine LW.split (d:=58) rfl (fun h58=>?_) (fun h58=>?_)
       ·replace h58:=bT h58
        refine Lv (Fa 0 3)<|Lv Ld<|Lv Cm<|Lv Pt<|Lv Pf<|Nl<|Ps ?_
        refine CW.cond rfl (fun h63=>?_) (fun h63=>?_)
        ·replace h63:=bT h63
         refine Sq<|Rg<|Lv Av<|Nl<|Ps<|Rt<|Br<|Tr<|Tr<|Br<|Br<|Tr<|Tr<|Br<|Tr<|Rt1 ?_
         have e2:shOne (l.take k) x=false:=by unfold shOne;rw[any_false2 (i:=i) (y:=y) (by rw[List.getElem?_take_of_lt (by omega)];exact hy) (by unfold clash;simp_all)];simp
         have e1:shapeB l=false:=by unfold shapeB;rw[hk2,hst,e2];simp
         rw[e1]
         intro w' hw;exact⟨rfl,hw.below⟩
        ·replace h63:=bF h63
         refine Sk<|Bn<|Ps<|Rg<|Lv Ar<|Lv Mv<|Nl ?_
         exact roundA (i+1) ⟨by omega,by rw[any_take hy,hi2,Bool.false_or];unfold clash;simp_all⟩ (by omega)
       ·replace h58:=bF h58
        refine Lp<|Lp<|Lp<|Lv Pf<|Lv Pf<|Nl<|Ps<|Cf<|Sk<|Bn<|Ps<|Rg<|Lv Ar<|Lv Mv<|Nl ?_
        exact roundA (i+1) ⟨by omega,by rw[any_take hy,hi2,Bool.false_or];unfold clash;simp_all⟩ (by omega)
     ·replace h38:=bF h38
      refine Xt<|Te<|Te<|Bh<|Bn<|Ps<|Rg<|Lv Ar<|Lv Mv<|Nl ?_
      refine PQ.round (k+1) ⟨by omega,by
       obtain rfl:i=k:=by omega
       have e2:shOne (l.take i) x=true:=by unfold shOne;rw[hkd,hi2];rfl
       rw[hk2,hst,e2,Bool.true_and]⟩ (by omega) (by repeat(first|exact trivial|refine⟨rfl,?_⟩)) (by repeat(first|exact .nil|apply Pick.cons|exact .here|apply Ext.there))
   ·replace h18:=bF h18
    refine Xt<|Te<|Te<|Bh<|Ps<|Sq<|Rg<|Lv Av<|Nl<|Ps<|Rt<|Rt1 ?_
    have e1:shapeB l=true:=by unfold shapeB;rw[decide_eq_true (by omega),hk2,List.drop_of_length_le (by omega)];rfl
    rw[e1]
    intro w' hw;exact⟨rfl,hw.below⟩
instance:Cal Tryz.prog 148:=⟨Tryz.call148⟩
instance:Cal Tryz.prog 360:=⟨Tryz.call360⟩
instance:Cal Tryz.prog 437:=⟨Tryz.call437⟩
def fndQ (q:List Lk)(y:Chg):Bool:=q.head?.isSome&&decide (q.head?.getD lk0=y.old)
def fndB (Tz:Tbl)(q:List Lk)(y:Chg):Bool:=if mapB y=true then((tGet Tz y.key).isSome==y.had&&(!(tGet Tz y.key).isSome||decide ((tGet Tz y.key).getD lk0=y.old))) else if y.kind=5 then fndQ q y else true
theorem lkEq (a b:Lk):(decide ((⟨a.key.toArray⟩:ByteArray)=⟨b.key.toArray⟩)&&(a.id==b.id&&(a.ver==b.ver&&(a.line==b.line&&(a.cls==b.cls&&true)))))=decide (a=b):=by
 obtain⟨k,i,v,l,c⟩:=a
 obtain⟨k',i',v',l',c'⟩:=b
 rw[Bool.eq_iff_iff]
 simp only[Bool.and_eq_true,decide_eq_true_eq,beq_iff_eq,Lk.mk.injEq,and_true]
 constructor
 ·rintro⟨h1,h2,h3,h4,h5⟩
  refine⟨?_,h2,h3,h4,h5⟩
  injection h1 with h1
  simpa using congrArg Array.toList h1
 ·rintro⟨rfl,rfl,rfl,rfl,rfl⟩;exact⟨rfl,rfl,rfl,rfl,rfl⟩
theorem afound_g (x:ArR)(s:ArS)(db th n:Nat)(hA:ArOk th n x s)(y:Chg)(hy:y.key.length≤100000)(w:World)(hs:Sat (arS x s db) w):Calls Tryz.prog 406 [.pointer (some ⟨x.a,0,none⟩),chV y].toArray w fun e w'=>e= .returned (.bool (fndB s.Tz (rgQ s.rg) y))∧Below w.heap.size w w':=by
 refine V.calls (arS x s db) Tryz.func406 rfl Tryz.ntmps406 (Nat.le_of_ble_eq_true rfl) hs<|Sq<|Rg<|Le XA fun b3 _=>Lv Av<|Nl<|Ps<|Sq<|Bk<|Sq<|Rg<|Lv (Lw (l:=chC y))<|Le (CV fun w hw=>mapped_c y w) fun _ _=>Lv Av<|Nl<|Ps ?_
 refine CW.cond rfl (fun h9=>?_) (fun h9=>?_)
 ·replace h9:=bT h9
  have h9:mapB y=true:=h9
  refine Sq<|Dr (([(b3,.cells (chC y).toArray 473 (0,0))]::arS x s db))<|Rv 0 rfl Mv<|Rv 1 rfl Nz<|Rv 2 rfl (Fa 5 157)<|Rv 3 rfl Ld<|Rv 4 rfl (Fa 1 9)<|Rv 5 rfl (Ld (v:=str y.key))<|RW.any [6,10] (by kernel_rfl) (by simp) fun i hi=>?_
  simp only[List.mem_cons,List.not_mem_nil,or_false] at hi
  rcases hi with rfl|rfl
  ·refine Ro rfl (CV fun w hw=>tget_g x.tb x.ms s.Tz hA.tb y.key hy w (hw.sat.pick (ss:=tbS x.tb x.ms s.Tz) (by repeat(first|exact .nil|apply Pick.cons|exact .here|apply Ext.there)))) fun _ _=>Rv 7 rfl Mv<|Rv 8 rfl Ex<|Rv 9 rfl Ex<|Re 10 rfl AA fun b5 _=>ReN 11 rfl (StW (cs:=lkC ((tGet s.Tz y.key).getD lk0))) fun _ _=>Rv 12 rfl Av<|Rd<|Ps<|Sq<|Rg<|Lv Mv<|Lv (Fa 3 4)<|Lv (Ld (v:= .bool y.had))<|Lv (Val.eqB rfl rfl Tryz.underlying4)<|Lv Mv ?_
   refine LW.split (d:=26) rfl (fun h26=>?_) (fun h26=>?_)
   ·replace h26:=bT h26
    refine Lv Mv<|Lv Nt<|Lv Mv ?_
    refine LW.split (d:=29) rfl (fun h29=>?_) (fun h29=>?_)
    ·replace h29:=bT h29
     refine Lp<|Lp<|Lp<|Lp<|Lv Pt<|Lv Pt<|Lv Av<|Nl<|Ps<|Rt<|Br<|Tr<|Rt1 ?_
     have e1:fndB s.Tz (rgQ s.rg) y=_:=if_pos h9
     rw[e1]
     intro w' hw;exact⟨by first|rfl|(congr 2;simp_all;done)|(simp_all[fndQ];done)|(congr 2;cases hq0:rgQ s.rg<;>simp_all[fndQ]),hw.ro (by repeat(first|exact .nil|apply Pick.cons|exact .here|apply Ext.there)) hs⟩
    ·replace h29:=bF h29
     refine Lv (Lw (l:=lkC ((tGet s.Tz y.key).getD lk0)))<|Lv (Fa 4 94)<|Lv (La (lkC y.old) (r:=[.int .i64 y.line,.int .i64 y.cls]) (hl:=rfl))<|Lv (Val.eqA rfl rfl (by kernel_rfl) Tryz.underlying94 (by kernel_rfl) (by exact(.str rfl rfl Tryz.isAgg9 Tryz.underlying9 (.int rfl rfl Tryz.isAgg92 Tryz.underlying92 (.int rfl rfl Tryz.isAgg92 Tryz.underlying92 (.int rfl rfl Tryz.isAgg3 Tryz.underlying3 (.int rfl rfl Tryz.isAgg3 Tryz.underlying3 .nil)))))))<|LW.re 33 (.bool (decide (((tGet s.Tz y.key).getD lk0)=y.old))) rfl (by exact congrArg Value.bool (lkEq ((tGet s.Tz y.key).getD lk0) y.old))<|Lv Pf<|Lv Pt<|Lv Av<|Nl<|Ps<|Rt<|Br<|Tr<|Rt1 ?_
     have e1:fndB s.Tz (rgQ s.rg) y=_:=if_pos h9
     rw[e1]
     intro w' hw;exact⟨by first|rfl|(congr 2;simp_all;done)|(simp_all[fndQ];done)|(congr 2;cases hq0:rgQ s.rg<;>simp_all[fndQ]),hw.ro (by repeat(first|exact .nil|apply Pick.cons|exact .here|apply Ext.there)) hs⟩
   ·replace h26:=bF h26
    refine Lp<|Lp<|Lp<|Lp<|Lp<|Lp<|Lp<|Lp<|Lv Pf<|Lv Av<|Nl<|Ps<|Rt<|Br<|Tr<|Rt1 ?_
    have e1:fndB s.Tz (rgQ s.rg) y=_:=if_pos h9
    rw[e1]
    intro w' hw;exact⟨by first|rfl|(congr 2;simp_all;done)|(simp_all[fndQ];done)|(congr 2;cases hq0:rgQ s.rg<;>simp_all[fndQ]),hw.ro (by repeat(first|exact .nil|apply Pick.cons|exact .here|apply Ext.there)) hs⟩
  ·refine Ro rfl AA fun b5 _=>Re 6 rfl (CV fun w hw=>tget_g x.tb x.ms s.Tz hA.tb y.key hy w (hw.sat.pick (ss:=tbS x.tb x.ms s.Tz) (by repeat(first|exact .nil|apply Pick.cons|exact .here|apply Ext.there)))) fun _ _=>Rv 7 rfl Mv<|Rv 8 rfl Ex<|Rv 9 rfl Ex<|ReN 11 rfl (StW (cs:=lkC ((tGet s.Tz y.key).getD lk0))) fun _ _=>Rv 12 rfl Av<|Rd<|Ps<|Sq<|Rg<|Lv Mv<|Lv (Fa 3 4)<|Lv (Ld (v:= .bool y.had))<|Lv (Val.eqB rfl rfl Tryz.underlying4)<|Lv Mv ?_
   refine LW.split (d:=26) rfl (fun h26=>?_) (fun h26=>?_)
   ·replace h26:=bT h26
    refine Lv Mv<|Lv Nt<|Lv Mv ?_
    refine LW.split (d:=29) rfl (fun h29=>?_) (fun h29=>?_)
    ·replace h29:=bT h29
     refine Lp<|Lp<|Lp<|Lp<|Lv Pt<|Lv Pt<|Lv Av<|Nl<|Ps<|Rt<|Br<|Tr<|Rt1 ?_
     have e1:fndB s.Tz (rgQ s.rg) y=_:=if_pos h9
     rw[e1]
     intro w' hw;exact⟨by first|rfl|(congr 2;simp_all;done)|(simp_all[fndQ];done)|(congr 2;cases hq0:rgQ s.rg<;>simp_all[fndQ]),hw.ro (by repeat(first|exact .nil|apply Pick.cons|exact .here|apply Ext.there)) hs⟩
    ·replace h29:=bF h29
     refine Lv (Lw (l:=lkC ((tGet s.Tz y.key).getD lk0)))<|Lv (Fa 4 94)<|Lv (La (lkC y.old) (r:=[.int .i64 y.line,.int .i64 y.cls]) (hl:=rfl))<|Lv (Val.eqA rfl rfl (by kernel_rfl) Tryz.underlying94 (by kernel_rfl) (by exact(.str rfl rfl Tryz.isAgg9 Tryz.underlying9 (.int rfl rfl Tryz.isAgg92 Tryz.underlying92 (.int rfl rfl Tryz.isAgg92 Tryz.underlying92 (.int rfl rfl Tryz.isAgg3 Tryz.underlying3 (.int rfl rfl Tryz.isAgg3 Tryz.underlying3 .nil)))))))<|LW.re 33 (.bool (decide (((tGet s.Tz y.key).getD lk0)=y.old))) rfl (by exact congrArg Value.bool (lkEq ((tGet s.Tz y.key).getD lk0) y.old))<|Lv Pf<|Lv Pt<|Lv Av<|Nl<|Ps<|Rt<|Br<|Tr<|Rt1 ?_
     have e1:fndB s.Tz (rgQ s.rg) y=_:=if_pos h9
     rw[e1]
     intro w' hw;exact⟨by first|rfl|(congr 2;simp_all;done)|(simp_all[fndQ];done)|(congr 2;cases hq0:rgQ s.rg<;>simp_all[fndQ]),hw.ro (by repeat(first|exact .nil|apply Pick.cons|exact .here|apply Ext.there)) hs⟩
   ·replace h26:=bF h26
    refine Lp<|Lp<|Lp<|Lp<|Lp<|Lp<|Lp<|Lp<|Lv Pf<|Lv Av<|Nl<|Ps<|Rt<|Br<|Tr<|Rt1 ?_
    have e1:fndB s.Tz (rgQ s.rg) y=_:=if_pos h9
    rw[e1]
    intro w' hw;exact⟨by first|rfl|(congr 2;simp_all;done)|(simp_all[fndQ];done)|(congr 2;cases hq0:rgQ s.rg<;>simp_all[fndQ]),hw.ro (by repeat(first|exact .nil|apply Pick.cons|exact .here|apply Ext.there)) hs⟩
 ·replace h9:=bF h9
  have h9:mapB y=false:=h9
  refine Sq<|Rg<|Lv (Fa 0 3)<|Lv Ld<|Lv Cm<|Lv Av<|Nl<|Ps ?_
  refine CW.cond rfl (fun h36=>?_) (fun h36=>?_)
  ·replace h36:=bT h36
   have h36:y.kind=5:=h36
   refine Sq<|Rg<|Lv Mv<|Lv Nz<|Lv (Fa 7 159)<|Lv Ld<|Le (CV fun w hw=>lhead_c x.fb s.rg s.ro hA.rg w (hw.sat.pick (ss:=rgS 277 x.fb s.rg s.ro) (by repeat(first|exact .nil|apply Pick.cons|exact .here|apply Ext.there)))) fun _ _=>Lv Mv<|Lv Ex<|Lv Ex<|Le AA fun b7 _=>LeN (StW (cs:=lkC ((rgQ s.rg).head?.getD lk0))) fun _ _=>Lv Av<|Nl<|Ps<|Sq<|Rg<|Lv Mv<|Lv Mv ?_
   refine LW.split (d:=49) rfl (fun h49=>?_) (fun h49=>?_)
   ·replace h49:=bT h49
    refine Lv (Lw (l:=lkC ((rgQ s.rg).head?.getD lk0)))<|Lv (Fa 4 94)<|Lv (La (lkC y.old) (r:=[.int .i64 y.line,.int .i64 y.cls]) (hl:=rfl))<|Lv (Val.eqA rfl rfl (by kernel_rfl) Tryz.underlying94 (by kernel_rfl) (by exact(.str rfl rfl Tryz.isAgg9 Tryz.underlying9 (.int rfl rfl Tryz.isAgg92 Tryz.underlying92 (.int rfl rfl Tryz.isAgg92 Tryz.underlying92 (.int rfl rfl Tryz.isAgg3 Tryz.underlying3 (.int rfl rfl Tryz.isAgg3 Tryz.underlying3 .nil)))))))<|LW.re 53 (.bool (decide (((rgQ s.rg).head?.getD lk0)=y.old))) rfl (by exact congrArg Value.bool (lkEq ((rgQ s.rg).head?.getD lk0) y.old))<|Lv Pt<|Lv Av<|Nl<|Ps<|Rt<|Br<|Tr<|Rt1 ?_
    have e1:fndB s.Tz (rgQ s.rg) y=_:=(if_neg (by simpa using h9)).trans (if_pos h36)
    rw[e1]
    intro w' hw;exact⟨by first|rfl|(congr 2;simp_all;done)|(simp_all[fndQ];done)|(congr 2;cases hq0:rgQ s.rg<;>simp_all[fndQ]),hw.ro (by repeat(first|exact .nil|apply Pick.cons|exact .here|apply Ext.there)) hs⟩
   ·replace h49:=bF h49
    refine Lp<|Lp<|Lp<|Lp<|Lv Pf<|Lv Av<|Nl<|Ps<|Rt<|Br<|Tr<|Rt1 ?_
    have e1:fndB s.Tz (rgQ s.rg) y=_:=(if_neg (by simpa using h9)).trans (if_pos h36)
    rw[e1]
    intro w' hw;exact⟨by first|rfl|(congr 2;simp_all;done)|(simp_all[fndQ];done)|(congr 2;cases hq0:rgQ s.rg<;>simp_all[fndQ]),hw.ro (by repeat(first|exact .nil|apply Pick.cons|exact .here|apply Ext.there)) hs⟩
  ·replace h36:=bF h36
   have h36:¬y.kind=5:=h36
   refine Sk<|Bn<|Ps<|Sq<|Rg<|Lv Av<|Nl<|Ps<|Rt<|Rt1 ?_
   have e1:fndB s.Tz (rgQ s.rg) y=_:=(if_neg (by simpa using h9)).trans (if_neg h36)
   rw[e1]
   intro w' hw;exact⟨by first|rfl|(congr 2;simp_all;done)|(simp_all[fndQ];done)|(congr 2;cases hq0:rgQ s.rg<;>simp_all[fndQ]),hw.ro (by repeat(first|exact .nil|apply Pick.cons|exact .here|apply Ext.there)) hs⟩
def usedB (T q:List Lk)(bg:List Ent)(line:Int):Bool:=(T++q).any (fun k=>decide (k.line=line))||bg.any (fun e=>decide (e.line=line)||decide (e.anti=line))
theorem any_perm {α:Type}{l r:List α}(h:l.Perm r)(f:α→Bool):l.any f=r.any f:=by
 rw[Bool.eq_iff_iff,List.any_eq_true,List.any_eq_true]
 exact⟨fun⟨y,h1,h2⟩=>⟨y,h.subset h1,h2⟩,fun⟨y,h1,h2⟩=>⟨y,h.symm.subset h1,h2⟩⟩
theorem used_g (x:ArR)(s:ArS)(db th n:Nat)(hA:ArOk th n x s)(hst:tStp s.Tz)(hn:(tLinks s.Tz).length≤1000)(hq:(rgQ s.rg).length≤1000)(hb:s.bg.length≤1000)(line:Int)(w:World)(hs:Sat (arS x s db) w):Calls Tryz.prog 439 [.pointer (some ⟨x.a,0,none⟩),.int .i64 line].toArray w fun e w'=>e= .returned (.bool (usedB (tLinks s.Tz) (rgQ s.rg) s.bg line))∧Below w.heap.size w w':=by
 refine V.calls (arS x s db) Tryz.func439 rfl Tryz.ntmps439 (Nat.le_of_ble_eq_true rfl) hs<|Sq<|Rg<|Lv Av<|Nl<|Ps<|Sq<|Sq<|Dr ([[(x.a,.cells (arC x s).toArray 166 (0,0))]])<|Rv 0 rfl Mv<|Rv 1 rfl Nz<|Rv 2 rfl (Fa 5 157)<|Rv 3 rfl Ld<|Rv 5 rfl Mv<|Rv 6 rfl Nz<|Rv 7 rfl (Fa 7 159)<|Rv 8 rfl Ld<|Rv 12 rfl Mv<|Re 4 rfl (CM (tbS x.tb x.ms s.Tz) fun w hw hs0=>all_g x.tb x.ms s.Tz hA.tb hst hn w hs0) fun y hy=>?_
 obtain⟨oL,L⟩:=y
 have hLp:L.Perm (tLinks s.Tz)∧UpL L∧ownOk 5 L.length (L.flatMap lkC) oL:=hy
 clear hy
 have hLl:L.length=(tLinks s.Tz).length:=hLp.1.length_eq
 refine Re 9 rfl (CM (rgS 277 x.fb s.rg s.ro) fun w hw hs0=>lall_c x.fb s.rg s.ro hA.rg w hs0) fun oQ hQ=>Re 10 rfl (Eff.appendOwn (sz:=5) (bytes:=48) (z:= .agg #[.string ⟨#[]⟩,.int .u64 0,.int .u64 0,.int .i64 0,.int .i64 0]) (xs:=L.flatMap lkC) (ys:=(rgQ s.rg).flatMap lkC) (m0:=L.length) (m:=(rgQ s.rg).length) (o:=oL) (oy:=oQ) (pk:=[ownG 94 (L.flatMap lkC) oL]) (pk2:=[ownG 94 ((rgQ s.rg).flatMap lkC) oQ]) rfl rfl Tryz.underlying225 (by kernel_rfl) rfl (by omega) (by repeat(first|exact .nil|apply Pick.cons|exact .here|apply Ext.there)) (by first|rfl|simp) hLp.2.2 (by repeat(first|exact .nil|apply Pick.cons|exact .here|apply Ext.there)) (by simp) hQ (lk_one1 _) (by omega) (by omega)) fun oM hoM=>?_
 rw[show L.flatMap lkC++(rgQ s.rg).flatMap lkC=(L++rgQ s.rg).flatMap lkC by rw[List.flatMap_append],show L.length+(rgQ s.rg).length=(L++rgQ s.rg).length by rw[List.length_append]] at hoM⊢
 have hM:ownOk 5 (L++rgQ s.rg).length ((L++rgQ s.rg).flatMap lkC) oM:=hoM
 have hMl:(L++rgQ s.rg).length=L.length+(rgQ s.rg).length:=List.length_append
 refine Rv 11 rfl (Val.lenOwn rfl Tryz.underlying225 hM)<|Rd<|Ps<|Bk<|loopA (γ:=Nat) (fun i=>[(0,.pointer (some ⟨x.a,0,none⟩)),(1,.int .i64 line),(19,ownV (L++rgQ s.rg).length oM),(20,.int .i64 ((L++rgQ s.rg).length:Nat)),(21,.int .i64 (i:Nat))]) (fun i=>ownG 94 ((L++rgQ s.rg).flatMap lkC) oM::arS x s db) (fun i=>i≤(L++rgQ s.rg).length∧((L++rgQ s.rg).take i).any (fun k=>decide (k.line=line))=false) (fun i=>(L++rgQ s.rg).length-i) (0) ⟨Nat.zero_le _,rfl⟩ fun i=>?_
 rintro⟨hi1,hi2⟩
 refine Sq<|Rg<|Lv Cm<|Nl<|Ps<|Sq ?_
 refine CW.cond rfl (fun h22=>?_) (fun h22=>?_)
 ·replace h22:=bT h22
  obtain⟨l,hl⟩:∃l,(L++rgQ s.rg)[i]? =some l:=⟨(L++rgQ s.rg)[i]'(by omega),by simp⟩
  obtain⟨gM,restM,capM,rfl⟩:∃g r c,oM=some (g,r,c):=by
   rcases oM with _|⟨g,r,c⟩
   ·exact absurd hM.2 (by omega)
   ·exact⟨g,r,c,rfl⟩
  obtain⟨r9,hr9⟩:=V.drop_flatMap lkC_len (L++rgQ s.rg) (i) l hl
  have hr8:((L++rgQ s.rg).flatMap lkC++restM).drop (0+(i)*5)=lkC l++(r9++restM):=by
   rw[Nat.zero_add,List.drop_append_of_le_length (by rw[V.flatMap_len lkC_len];omega),hr9,List.append_assoc]
  refine Sk<|Ps<|Sq<|Bk<|Sq<|Rg<|Lv (Val.indexAddrN (i:=i) rfl rfl Tryz.underlying225 Tryz.sizeOf94 (by omega))<|Lv (La (lkC l) (r:=r9++restM) (hl:=hr8))<|Le AA fun b6 _=>LeN (StW (cs:=lkC l)) fun _ _=>Nl<|Ps<|Sq<|Rg<|Lv (Fa 3 3)<|Lv (Ld (v:= .int .i64 l.line))<|Lv Mv<|Lv Cm<|Nl<|Ps ?_
  refine CW.cond rfl (fun h28=>?_) (fun h28=>?_)
  ·replace h28:=bT h28
   refine Sq<|Rg<|Lv Av<|Nl<|Ps<|Rt<|Br<|Tr<|Tr<|Br<|Tr<|Rt1 ?_
   have e1:usedB (tLinks s.Tz) (rgQ s.rg) s.bg line=true:=by
    unfold usedB
    rw[show(tLinks s.Tz++rgQ s.rg).any (fun k=>decide (k.line=line))=true from List.any_eq_true.2 ⟨l,(hLp.1.append_right _).subset (List.mem_of_getElem? hl),by simpa using h28⟩];rfl
   rw[e1]
   intro w' hw;exact⟨rfl,hw.ro (by repeat(first|exact .nil|apply Pick.cons|exact .here|apply Ext.there)) hs⟩
  ·replace h28:=bF h28
   refine Sk<|Bn<|Ps<|Rg<|Lv Ar<|Lv Mv<|Nl ?_
   exact roundA (i+1) ⟨by omega,by rw[any_take hl,hi2,Bool.false_or];simpa using h28⟩ (by omega)
 ·replace h22:=bF h22
  have hno:(L++rgQ s.rg).any (fun k=>decide (k.line=line))=false:=by rw[List.take_of_length_le (by omega)] at hi2;exact hi2
  refine Xt<|Te<|Te<|Bh<|Ps<|Sq<|Sq<|Rg<|Lv Mv<|Lv Nz<|Lv (Fa 4 156)<|Lv Ld<|Le (CM (bgS x.lb s.bg s.bo) fun w hw hs0=>ball_g x.lb s.bo s.bg hA.bg (by omega) w hs0) fun oB hB=>Lv (Val.lenOwn rfl Tryz.underlying241 hB)<|Lv Mv<|Nl<|Ps<|Bk<|loopA (γ:=Nat) (fun j=>[(0,.pointer (some ⟨x.a,0,none⟩)),(1,.int .i64 line),(34,ownV s.bg.length oB),(35,.int .i64 (s.bg.length:Nat)),(36,.int .i64 (j:Nat))]) (fun j=>ownG 244 (s.bg.flatMap enC) oB::arS x s db) (fun j=>j≤s.bg.length∧(s.bg.take j).any (fun e=>decide (e.line=line)||decide (e.anti=line))=false) (fun j=>s.bg.length-j) (0) ⟨Nat.zero_le _,rfl⟩ fun j=>?_
  rintro⟨hj1,hj2⟩
  refine Sq<|Rg<|Lv Cm<|Nl<|Ps<|Sq ?_
  refine CW.cond rfl (fun h37=>?_) (fun h37=>?_)
  ·replace h37:=bT h37
   obtain⟨y,hy⟩:∃y,s.bg[j]? =some y:=⟨s.bg[j]'(by omega),by simp⟩
   obtain⟨gB,restB,capB,rfl⟩:∃g r c,oB=some (g,r,c):=by
    rcases oB with _|⟨g,r,c⟩
    ·exact absurd hB.2 (by omega)
    ·exact⟨g,r,c,rfl⟩
   obtain⟨r9,hr9⟩:=V.drop_flatMap enC_len s.bg (j) y hy
   have hr8:(s.bg.flatMap enC++restB).drop (0+(j)*5)=enC y++(r9++restB):=by
    rw[Nat.zero_add,List.drop_append_of_le_length (by rw[V.flatMap_len enC_len];omega),hr9,List.append_assoc]
   refine Sk<|Ps<|Sq<|Bk<|Sq<|Rg<|Lv (Val.indexAddrN (i:=j) rfl rfl Tryz.underlying241 Tryz.sizeOf244 (by omega))<|Lv (La (enC y) (r:=r9++restB) (hl:=hr8))<|Le AA fun b8 _=>LeN (StW (cs:=enC y)) fun _ _=>Nl<|Ps<|Sq<|Rg<|Lv (Fa 0 3)<|Lv (Ld (v:= .int .i64 y.line))<|Lv Mv<|Lv Cm<|Lv Mv ?_
   refine LW.split (d:=44) rfl (fun h44=>?_) (fun h44=>?_)
   ·replace h44:=bT h44
    refine Lp<|Lp<|Lp<|Lp<|Lv Pt<|Nl<|Ps<|Ct<|Sq<|Rg<|Lv Av<|Nl<|Ps<|Rt<|Br<|Tr<|Tr<|Br<|Tr<|Rt1 ?_
    have e1:usedB (tLinks s.Tz) (rgQ s.rg) s.bg line=true:=by
     unfold usedB
     rw[show s.bg.any (fun e=>decide (e.line=line)||decide (e.anti=line))=true from List.any_eq_true.2 ⟨y,List.mem_of_getElem? hy,by simp_all⟩,Bool.or_true]
    rw[e1]
    intro w' hw;exact⟨rfl,hw.ro (by repeat(first|exact .nil|apply Pick.cons|exact .here|apply Ext.there)) hs⟩
   ·replace h44:=bF h44
    refine Lv (Fa 4 3)<|Lv (Ld (v:= .int .i64 y.anti))<|Lv Mv<|Lv Cm<|Lv Pf<|Nl<|Ps ?_
    refine CW.cond rfl (fun h49=>?_) (fun h49=>?_)
    ·replace h49:=bT h49
     refine Sq<|Rg<|Lv Av<|Nl<|Ps<|Rt<|Br<|Tr<|Tr<|Br<|Tr<|Rt1 ?_
     have e1:usedB (tLinks s.Tz) (rgQ s.rg) s.bg line=true:=by
      unfold usedB
      rw[show s.bg.any (fun e=>decide (e.line=line)||decide (e.anti=line))=true from List.any_eq_true.2 ⟨y,List.mem_of_getElem? hy,by simp_all⟩,Bool.or_true]
     rw[e1]
     intro w' hw;exact⟨rfl,hw.ro (by repeat(first|exact .nil|apply Pick.cons|exact .here|apply Ext.there)) hs⟩
    ·replace h49:=bF h49
     refine Sk<|Bn<|Ps<|Rg<|Lv Ar<|Lv Mv<|Nl ?_
     exact roundA (j+1) ⟨by omega,by rw[any_take hy,hj2,Bool.false_or];simp_all⟩ (by omega)
  ·replace h37:=bF h37
   refine Xt<|Te<|Te<|Bh<|Ps<|Sq<|Rg<|Lv Av<|Nl<|Ps<|Rt<|Rt1 ?_
   have e1:usedB (tLinks s.Tz) (rgQ s.rg) s.bg line=false:=by
    unfold usedB
    rw[← any_perm (hLp.1.append_right _),hno,Bool.false_or]
    rw[List.take_of_length_le (by omega)] at hj2;exact hj2
   rw[e1]
   intro w' hw;exact⟨rfl,hw.ro (by repeat(first|exact .nil|apply Pick.cons|exact .here|apply Ext.there)) hs⟩
def laidF (y:Chg)(id ver e:Int):Blk:=if y.kind=2 then⟨y.cls,1,id,ver,e,y.key,y.val⟩ else if y.kind=4 then⟨y.cls,2,id,ver,e,[],y.val⟩ else⟨0,3,id,ver,e,[],[]⟩
theorem laid_c (y:Chg)(id ver e0:Int)(w:World):Calls Tryz.prog 441 [chV y,.int .u64 id,.int .u64 ver,.int .u64 e0].toArray w fun e w'=>e= .returned (.agg (blC (laidF y id ver e0)).toArray)∧Below w.heap.size w w':=by
 refine V.calls [] Tryz.func441 rfl Tryz.ntmps441 (Nat.le_of_ble_eq_true rfl) (V.sat_nil _)<|Sq<|Rg<|Le XA fun b4 _=>Le AA fun b8 _=>Nl<|Ps<|Sq<|Rg<|Lv (Fa 10 3)<|Lv (Ld (v:= .int .i64 y.cls))<|Lv Mv<|Lv Mv<|Lv Mv<|Lv (Bd [_,_,_,_,_,_,_])<|Le AA fun b9 _=>LeN (StW (cs:=blC (⟨y.cls,0,id,ver,e0,[],[]⟩:Blk))) fun _ _=>Nl<|Ps<|Sq<|Sq<|Rg<|Lv (Fa 0 3)<|Lv Ld<|Nl<|Ps<|Bk<|Sq<|Rg<|Lv Cm<|Lv Av<|Nl<|Ps ?_
 refine CW.cond rfl (fun h20=>?_) (fun h20=>?_)
 ·replace h20:=bT h20
  have h20:y.kind=2:=h20
  refine Dr ([[(b4,.cells (chC y).toArray 473 (0,0))]])<|Rv 0 rfl (Fa 1 9)<|Rv 1 rfl (Ld (v:=str y.key))<|Rv 2 rfl (Fa 2 9)<|Rv 3 rfl (Ld (v:=str y.val))<|Rv 4 rfl (Fa 1 3)<|ReN 5 rfl StS fun _ _=>Rv 6 rfl (Fa 5 9)<|ReN 7 rfl StS fun _ _=>Rv 8 rfl (Fa 6 9)<|ReN 9 rfl StS fun _ _=>Rd<|Bn<|Ps<|Sq<|Rg<|Lv (Lw (l:=blC (⟨y.cls,1,id,ver,e0,y.key,y.val⟩:Blk)))<|LeN (StW (cs:=blC (⟨y.cls,1,id,ver,e0,y.key,y.val⟩:Blk))) fun _ _=>Nl<|Ps<|Rt<|PQ.retC rfl rfl (by repeat(first|exact .here|exact .inner .here|exact .inner (.inner .here)|refine .there ?_)) Tryz.isAgg308 (by exact Tryz.sizeOf308) ?_
  have e1:laidF y id ver e0=_:=if_pos h20
  rw[e1]
  intro w' hw;exact⟨rfl,hw.below⟩
 ·replace h20:=bF h20
  have h20:¬y.kind=2:=h20
  refine Sq<|Rg<|Lv Cm<|Lv Av<|Nl<|Ps ?_
  refine CW.cond rfl (fun h29=>?_) (fun h29=>?_)
  ·replace h29:=bT h29
   have h29:y.kind=4:=h29
   refine Dr ([[(b4,.cells (chC y).toArray 473 (0,0))]])<|Rv 0 rfl (Fa 2 9)<|Rv 1 rfl (Ld (v:=str y.val))<|Rv 2 rfl (Fa 1 3)<|ReN 3 rfl StS fun _ _=>Rv 4 rfl (Fa 6 9)<|ReN 5 rfl StS fun _ _=>Rd<|Bn<|Ps<|Sq<|Rg<|Lv (Lw (l:=blC (⟨y.cls,2,id,ver,e0,[],y.val⟩:Blk)))<|LeN (StW (cs:=blC (⟨y.cls,2,id,ver,e0,[],y.val⟩:Blk))) fun _ _=>Nl<|Ps<|Rt<|PQ.retC rfl rfl (by repeat(first|exact .here|exact .inner .here|exact .inner (.inner .here)|refine .there ?_)) Tryz.isAgg308 (by exact Tryz.sizeOf308) ?_
   have e1:laidF y id ver e0=_:=(if_neg h20).trans (if_pos h29)
   rw[e1]
   intro w' hw;exact⟨rfl,hw.below⟩
  ·replace h29:=bF h29
   have h29:¬y.kind=4:=h29
   refine Rg<|Lv (Fa 1 3)<|LeN StS fun _ _=>Lv (Fa 0 3)<|LeN StS fun _ _=>Nl<|Bn<|Ps<|Sq<|Rg<|Lv (Lw (l:=blC (⟨0,3,id,ver,e0,[],[]⟩:Blk)))<|LeN (StW (cs:=blC (⟨0,3,id,ver,e0,[],[]⟩:Blk))) fun _ _=>Nl<|Ps<|Rt<|PQ.retC rfl rfl (by repeat(first|exact .here|exact .inner .here|exact .inner (.inner .here)|refine .there ?_)) Tryz.isAgg308 (by exact Tryz.sizeOf308) ?_
   have e1:laidF y id ver e0=_:=(if_neg h20).trans (if_neg h29)
   rw[e1]
   intro w' hw;exact⟨rfl,hw.below⟩
instance:Cal Tryz.prog 409:=⟨Tryz.call409⟩
instance:Cal Tryz.prog 438:=⟨Tryz.call438⟩
instance:Cal Tryz.prog 439:=⟨Tryz.call439⟩
instance:Cal Tryz.prog 440:=⟨Tryz.call440⟩
instance:Cal Tryz.prog 441:=⟨Tryz.call441⟩
def hdOne (L:List Slb)(T q:List Lk)(bg:List Ent)(p:List Chg)(y:Chg):Bool:= !needB y||((ofF L y.line).2&&decide ((ofF L y.line).1=y.cls)&& !usedB T q bg y.line&& !p.any (fun z=>needB z&&decide (z.line=y.line)))
def heldB (L:List Slb)(T q:List Lk)(bg:List Ent)(l:List Chg):Bool:=allPre (hdOne L T q bg) [] l
theorem held_g (x:ArR)(s:ArS)(db th n:Nat)(hA:ArOk th n x s)(hst:tStp s.Tz)(hn:(tLinks s.Tz).length≤1000)(hq:(rgQ s.rg).length≤1000)(hb:s.bg.length≤1000)(l:List Chg)(p:Option Addr)(c:Nat)(hl:l.length≤c∧l.length≤1000)(w:World)(hs:Sat (arS x s db) w)(h:V.slAt w p 11 chC l)(hd:∀b o,p=some ⟨b,o,none⟩→b∉V.ids (arS x s db)):Calls Tryz.prog 407 [.pointer (some ⟨x.a,0,none⟩),.slice p l.length c].toArray w fun e w'=>e= .returned (.bool (heldB s.L (tLinks s.Tz) (rgQ s.rg) s.bg l))∧Below w.heap.size w w':=by
 refine V.calls (arS x s db) Tryz.func407 rfl Tryz.ntmps407 (Nat.le_of_ble_eq_true rfl) hs<|Sq<|Rg<|Lv Av<|Nl<|Ps<|Sq<|Sq<|Rg<|Lv Mv<|Lv Ln<|Lv Mv<|Nl<|Ps<|Bk<|loopA (γ:=Nat) (fun k=>[(0,.pointer (some ⟨x.a,0,none⟩)),(1,.slice p l.length c),(11,.slice p l.length c),(12,.int .i64 (l.length:Nat)),(13,.int .i64 (k:Nat))]) (fun k=>arS x s db) (fun k=>k≤l.length∧heldB s.L (tLinks s.Tz) (rgQ s.rg) s.bg l=allPre (hdOne s.L (tLinks s.Tz) (rgQ s.rg) s.bg) (l.take k) (l.drop k)) (fun k=>l.length-k) (0) ⟨Nat.zero_le _,rfl⟩ fun k=>?_
 rintro⟨hk1,hk2⟩
 refine Sq<|Rg<|Lv Cm<|Nl<|Ps<|Sq ?_
 refine CW.cond rfl (fun h14=>?_) (fun h14=>?_)
 ·replace h14:=bT h14
  obtain⟨b1,o1,y,rfl,hb1,hy1,hr1⟩:=V.slAt_at h rfl (k:=k) (by omega)
  have hnf:=hd b1 _ rfl
  have hst2:=allPre_step (f:=hdOne s.L (tLinks s.Tz) (rgQ s.rg) s.bg) hy1
  refine Sk<|Ps<|Sq<|Bk<|Sq<|Rg<|Lv Mv<|Lv (Val.indexAddrN (i:=k) rfl rfl Tryz.underlying474 Tryz.sizeOf473 (by omega))<|Lv (Val.loadOA (cs:=chC y) rfl Tryz.isAgg473 hb1 hnf (hr1 (k) _ hy1) Tryz.sizeOf473)<|Le AA fun b6 _=>Lv Av<|LeN (StW (cs:=chC y)) fun _ _=>Nl<|Ps<|Sq<|Sq<|Rg<|Lv (Lw (l:=chC y))<|Le (CV fun w hw=>needs_c y w) fun _ _=>Lv Nt<|Nl<|Ps ?_
  refine CW.cond rfl (fun h20=>?_) (fun h20=>?_)
  ·replace h20:=bT h20
   refine Xt<|Te<|Bh<|Ps<|Rg<|Lv Ar<|Lv Mv<|Nl ?_
   refine PQ.round (k+1) ⟨by omega,by
    have e2:hdOne s.L (tLinks s.Tz) (rgQ s.rg) s.bg (l.take k) y=true:=by unfold hdOne;simp_all
    rw[hk2,hst2,e2,Bool.true_and]⟩ (by omega) (by repeat(first|exact trivial|refine⟨rfl,?_⟩)) (by repeat(first|exact .nil|apply Pick.cons|exact .here|apply Ext.there))
  ·replace h20:=bF h20
   refine Sk<|Ps<|Sq<|Sq<|Qt<|Qv Mv<|Qv Nz<|Qv (Fa 1 153)<|Qv Ld<|Qv (Fa 9 3)<|Qv (Ld (v:= .int .i64 y.line))<|Qc (QV fun w hw=>of_c x.pb x.sb s.L y.line hA.pl w (hw.sat.pick (ss:=plS x.pb x.sb s.L) (by repeat(first|exact .nil|apply Pick.cons|exact .here|apply Ext.there))))<|Qv Mv<|Qv Ex<|Qv Ex<|Qv Av<|Qv Av<|Ql<|Ps<|Sq<|Rg<|Lv Mv<|Lv Nt<|Lv Mv ?_
   refine LW.split (d:=33) rfl (fun h33=>?_) (fun h33=>?_)
   ·replace h33:=bT h33
    refine Lp<|Lp<|Lp<|Lp<|Lv Pt<|Lv Mv<|Lp<|Lp<|Lp<|Lp<|Lv Pt<|Nl<|Ps<|Ct<|Sq<|Rg<|Lv Av<|Nl<|Ps<|Rt<|Tr<|Br<|Tr<|Tr<|Br<|Tr<|Rt1 ?_
    have e2:hdOne s.L (tLinks s.Tz) (rgQ s.rg) s.bg (l.take k) y=false:=by unfold hdOne;simp_all
    have e1:heldB s.L (tLinks s.Tz) (rgQ s.rg) s.bg l=false:=by rw[hk2,hst2,e2];simp
    rw[e1]
    intro w' hw;exact⟨rfl,hw.ro (by repeat(first|exact .nil|apply Pick.cons|exact .here|apply Ext.there)) hs⟩
   ·replace h33:=bF h33
    refine Lv Mv<|Lv (Fa 10 3)<|Lv (Ld (v:= .int .i64 y.cls))<|Lv Cm<|Lv Pf<|Lv Mv ?_
    refine LW.split (d:=39) rfl (fun h39=>?_) (fun h39=>?_)
    ·replace h39:=bT h39
     refine Lp<|Lp<|Lp<|Lp<|Lv Pt<|Nl<|Ps<|Ct<|Sq<|Rg<|Lv Av<|Nl<|Ps<|Rt<|Tr<|Br<|Tr<|Tr<|Br<|Tr<|Rt1 ?_
     have e2:hdOne s.L (tLinks s.Tz) (rgQ s.rg) s.bg (l.take k) y=false:=by unfold hdOne;simp_all
     have e1:heldB s.L (tLinks s.Tz) (rgQ s.rg) s.bg l=false:=by rw[hk2,hst2,e2];simp
     rw[e1]
     intro w' hw;exact⟨rfl,hw.ro (by repeat(first|exact .nil|apply Pick.cons|exact .here|apply Ext.there)) hs⟩
    ·replace h39:=bF h39
     refine Lv Mv<|Lv (Fa 9 3)<|Lv (Ld (v:= .int .i64 y.line))<|Le (CV fun w hw=>used_g x s db th n hA hst hn hq hb y.line w (hw.sat.pick (ss:=arS x s db) (by repeat(first|exact .nil|apply Pick.cons|exact .here|apply Ext.there)))) fun _ _=>Lv Pf<|Nl<|Ps ?_
     refine CW.cond rfl (fun h44=>?_) (fun h44=>?_)
     ·replace h44:=bT h44
      refine Sq<|Rg<|Lv Av<|Nl<|Ps<|Rt<|Tr<|Br<|Tr<|Tr<|Br<|Tr<|Rt1 ?_
      have e2:hdOne s.L (tLinks s.Tz) (rgQ s.rg) s.bg (l.take k) y=false:=by unfold hdOne;simp_all
      have e1:heldB s.L (tLinks s.Tz) (rgQ s.rg) s.bg l=false:=by rw[hk2,hst2,e2];simp
      rw[e1]
      intro w' hw;exact⟨rfl,hw.ro (by repeat(first|exact .nil|apply Pick.cons|exact .here|apply Ext.there)) hs⟩
     ·replace h44:=bF h44
      refine Sk<|Ps<|Sq<|Rg<|Lv Mv<|Lv Mv<|Lv (Val.slice 0 k c rfl Tryz.underlying474 Tryz.sizeOf473 rfl ⟨_,rfl⟩ rfl (fun h=>by cases h) (by omega) (by omega) (by omega))<|LW.re 47 (.slice (some ⟨b1,o1,none⟩) k c) rfl (by simp)<|Lv Ln<|Lv Mv<|Nl<|Ps<|Bk<|loopA (γ:=Nat) (fun i=>[(0,.pointer (some ⟨x.a,0,none⟩)),(1,.slice (some ⟨b1,o1,none⟩) l.length c),(6,.pointer (some ⟨b6,0,none⟩)),(11,.slice (some ⟨b1,o1,none⟩) l.length c),(12,.int .i64 (l.length:Nat)),(13,.int .i64 (k:Nat)),(47,.slice (some ⟨b1,o1,none⟩) k c),(48,.int .i64 (k:Nat)),(49,.int .i64 (i:Nat))]) (fun i=>[(b6,.cells (chC y).toArray 473 (0,0))]::arS x s db) (fun i=>i≤k∧(l.take i).any (fun z=>needB z&&decide (z.line=y.line))=false) (fun i=>k-i) (0) ⟨Nat.zero_le _,rfl⟩ fun i=>?_
      rintro⟨hi1,hi2⟩
      refine Sq<|Rg<|Lv Cm<|Nl<|Ps<|Sq ?_
      refine CW.cond rfl (fun h50=>?_) (fun h50=>?_)
      ·replace h50:=bT h50
       obtain⟨z,hz⟩:∃z,l[i]? =some z:=⟨l[i]'(by omega),by simp⟩
       refine Sk<|Ps<|Sq<|Bk<|Sq<|Rg<|Lv (Val.indexAddrN (i:=i) rfl rfl Tryz.underlying474 Tryz.sizeOf473 (by omega))<|Lv (Val.loadOA (cs:=chC z) rfl Tryz.isAgg473 hb1 hnf (hr1 (i) _ hz) Tryz.sizeOf473)<|Le AA fun b10 _=>LeN (StW (cs:=chC z)) fun _ _=>Nl<|Ps<|Sq<|Rg<|Lv (Lw (l:=chC z))<|Le (CV fun w hw=>needs_c z w) fun _ _=>Lv Mv ?_
       refine LW.split (d:=55) rfl (fun h55=>?_) (fun h55=>?_)
       ·replace h55:=bT h55
        refine Lv (Fa 9 3)<|Lv (Ld (v:= .int .i64 z.line))<|Lv (Fa 9 3)<|Lv (Ld (v:= .int .i64 y.line))<|Lv Cm<|Lv Pt<|Nl<|Ps ?_
        refine CW.cond rfl (fun h61=>?_) (fun h61=>?_)
        ·replace h61:=bT h61
         refine Sq<|Rg<|Lv Av<|Nl<|Ps<|Rt<|Br<|Tr<|Tr<|Br<|Br<|Tr<|Tr<|Br<|Tr<|Rt1 ?_
         have e2:hdOne s.L (tLinks s.Tz) (rgQ s.rg) s.bg (l.take k) y=false:=by unfold hdOne;rw[show(l.take k).any (fun z=>needB z&&decide (z.line=y.line))=true from List.any_eq_true.2 ⟨z,List.mem_of_getElem? (i:=i) (by rw[List.getElem?_take_of_lt (by omega)];exact hz),by simp_all⟩];simp_all
         have e1:heldB s.L (tLinks s.Tz) (rgQ s.rg) s.bg l=false:=by rw[hk2,hst2,e2];simp
         rw[e1]
         intro w' hw;exact⟨rfl,hw.ro (by repeat(first|exact .nil|apply Pick.cons|exact .here|apply Ext.there)) hs⟩
        ·replace h61:=bF h61
         refine Sk<|Bn<|Ps<|Rg<|Lv Ar<|Lv Mv<|Nl ?_
         exact roundA (i+1) ⟨by omega,by rw[any_take hz,hi2,Bool.false_or];simp_all⟩ (by omega)
       ·replace h55:=bF h55
        refine Lp<|Lp<|Lp<|Lp<|Lp<|Lv Pf<|Nl<|Ps<|Cf<|Sk<|Bn<|Ps<|Rg<|Lv Ar<|Lv Mv<|Nl ?_
        exact roundA (i+1) ⟨by omega,by rw[any_take hz,hi2,Bool.false_or];simp_all⟩ (by omega)
      ·replace h50:=bF h50
       refine Xt<|Te<|Te<|Bh<|Bn<|Ps<|Rg<|Lv Ar<|Lv Mv<|Nl ?_
       refine PQ.round (k+1) ⟨by omega,by
        have hik:i=k:=by omega
        rw[hik] at hi2
        have e2:hdOne s.L (tLinks s.Tz) (rgQ s.rg) s.bg (l.take k) y=true:=by unfold hdOne;simp_all
        rw[hk2,hst2,e2,Bool.true_and]⟩ (by omega) (by repeat(first|exact trivial|refine⟨rfl,?_⟩)) (by repeat(first|exact .nil|apply Pick.cons|exact .here|apply Ext.there))
 ·replace h14:=bF h14
  refine Xt<|Te<|Te<|Bh<|Ps<|Sq<|Rg<|Lv Av<|Nl<|Ps<|Rt<|Rt1 ?_
  have e1:heldB s.L (tLinks s.Tz) (rgQ s.rg) s.bg l=true:=by rw[hk2,List.drop_of_length_le (by omega)];rfl
  rw[e1]
  intro w' hw;exact⟨rfl,hw.ro (by repeat(first|exact .nil|apply Pick.cons|exact .here|apply Ext.there)) hs⟩
def newId (y:Chg):Bool:=decide (y.kind=4)||(decide (y.kind=2)&& !y.had)
def ftOne (e:Int)(y:Chg):Bool:= !needB y||(mayF (laidF y 1 1 e)&&decide ((laidF y 1 1 e).cls=y.cls))
def cntV (l:List Chg):Nat:=(l.filter needB).length
def cntI (l:List Chg):Nat:=(l.filter fun y=>needB y&&newId y).length
def fitsF2 (id ver e:Int)(l:List Chg):Int:=if l.all (ftOne e)=true then(if 2305843009213693952<ver+cntV l∧0<cntV l∨2305843009213693952<id+cntI l∧0<cntV l then 10 else 0) else 3
theorem filt_take {α:Type}{g:α→Bool}{l:List α}{i:Nat}{y:α}(h:l[i]? =some y):((l.take (i+1)).filter g).length=((l.take i).filter g).length+(if g y=true then 1 else 0):=by
 rw[List.take_add_one,h,Option.toList_some,List.filter_append,List.length_append]
 cases hg:g y<;>simp[hg]
theorem filtT_le {α:Type}{g:α→Bool}{l:List α}(i:Nat):((l.take i).filter g).length≤l.length:=by
 have h1:=List.length_filter_le g (l.take i)
 rw[List.length_take] at h1
 omega
theorem cntV_le (l:List Chg)(i:Nat):cntV (l.take i)≤l.length:=filtT_le i
theorem cntI_le (l:List Chg)(i:Nat):cntI (l.take i)≤l.length:=filtT_le i
theorem all_take {α:Type}{g:α→Bool}{l:List α}{i:Nat}{y:α}(h:l[i]? =some y):(l.take (i+1)).all g=((l.take i).all g&&g y):=by
 rw[List.take_add_one,h,Option.toList_some,List.all_append]
 simp
def endB (id ver:Int)(l:List Chg):Bool:=decide (2305843009213693952<ver+cntV l∧0<cntV l∨2305843009213693952<id+cntI l∧0<cntV l)
theorem laid_len {y:Chg}{id ver e:Int}(h:y.key.length≤3000∧y.val.length≤100000):(laidF y id ver e).key.length≤3000∧(laidF y id ver e).val.length≤100000:=by
 unfold laidF
 split
 ·exact h
 ·split
  ·exact⟨by simp,h.2⟩
  ·exact⟨by simp,by simp⟩
theorem fits_g (x:ArR)(s:ArS)(db:Nat)(l:List Chg)(p:Option Addr)(c:Nat)(hl:l.length≤c∧l.length≤1000)(hlen:∀y∈l,y.key.length≤3000∧y.val.length≤100000)(hid:0≤s.id∧s.id≤4611686018427387904∧0≤s.ver∧s.ver≤4611686018427387904)(e0:Int)(he:0≤e0∧e0≤4611686018427387904)(w:World)(hs:Sat (arS x s db) w)(h:V.slAt w p 11 chC l)(hd:∀b o,p=some ⟨b,o,none⟩→b∉V.ids (arS x s db)):Calls Tryz.prog 408 [.pointer (some ⟨x.a,0,none⟩),.slice p l.length c,.int .u64 e0].toArray w fun e w'=>e= .returned (.int .i64 (fitsF2 s.id s.ver e0 l))∧Below w.heap.size w w':=by
 refine V.calls (arS x s db) Tryz.func408 rfl Tryz.ntmps408 (Nat.le_of_ble_eq_true rfl) hs<|Sq<|Rg<|Lv Av<|Nl<|Ps<|Sq<|Rg<|Lv Mv<|Le (CV fun w hw=>anumbers_g x s w (hw.sat.pick (ss:=[[(x.a,.cells (arC x s).toArray 166 (0,0))]]) (by repeat(first|exact .nil|apply Pick.cons|exact .here|apply Ext.there)))) fun _ _=>Lv Mv<|Lv Ex<|Lv Ex<|Lv Av<|Lv Av<|Nl<|Ps<|Sq<|Rg<|Lv Av<|Nl<|Ps<|Sq<|Sq<|Rg<|Lv Mv<|Lv Ln<|Lv Mv<|Nl<|Ps<|Bk<|CW.loop (γ:=Nat) (fun k=>[(0,.pointer (some ⟨x.a,0,none⟩)),(1,.slice p l.length c),(2,.int .u64 e0),(7,.int .u64 (s.id+(cntI (l.take k):Int))),(8,.int .u64 (s.ver+(cntV (l.take k):Int))),(9,.bool (endB s.id s.ver (l.take k))),(18,.slice p l.length c),(19,.int .i64 (l.length:Nat)),(20,.int .i64 (k:Nat))]) (fun k=>arS x s db) (fun k=>k≤l.length∧(l.take k).all (ftOne e0)=true) (fun k=>l.length-k) (0) ⟨Nat.zero_le _,rfl⟩ (by rw[show s.id+(cntI (l.take 0):Int)=s.id from Int.add_zero _,show s.ver+(cntV (l.take 0):Int)=s.ver from Int.add_zero _,show endB s.id s.ver (l.take 0)=false from decide_eq_false (by simp[cntV])];exact⟨rfl,rfl,rfl,rfl,rfl,rfl,rfl,rfl,rfl,trivial⟩) (by repeat(first|exact .nil|apply Pick.cons|exact .here|apply Ext.there)) fun k=>?_
 rintro⟨hk1,hk2⟩
 refine Sq<|Rg<|Lv Cm<|Nl<|Ps<|Sq ?_
 refine CW.cond rfl (fun h21=>?_) (fun h21=>?_)
 ·replace h21:=bT h21
  obtain⟨b1,o1,y,rfl,hb1,hy1,hr1⟩:=V.slAt_at h rfl (k:=k) (by omega)
  have hnf:=hd b1 _ rfl
  have hcV:cntV (l.take (k+1))=_:=filt_take (g:=needB) hy1
  have hcI:cntI (l.take (k+1))=_:=filt_take (g:=fun y=>needB y&&newId y) hy1
  have hcl:=cntV_le l k
  have hci:=cntI_le l k
  have hyl:=hlen y (List.mem_of_getElem? hy1)
  have hbl:=laid_len (id:=1) (ver:=1) (e:=e0) hyl
  refine Sk<|Ps<|Sq<|Bk<|Sq<|Rg<|Lv (Val.indexAddrN (i:=k) rfl rfl Tryz.underlying474 Tryz.sizeOf473 (by omega))<|Lv (Val.loadOA (cs:=chC y) rfl Tryz.isAgg473 hb1 hnf (hr1 (k) _ hy1) Tryz.sizeOf473)<|Le AA fun b11 _=>LeN (StW (cs:=chC y)) fun _ _=>Nl<|Ps<|Sq<|Sq<|Rg<|Lv (Lw (l:=chC y))<|Le (CV fun w hw=>needs_c y w) fun _ _=>Lv Nt<|Nl<|Ps ?_
  refine CW.cond rfl (fun h26=>?_) (fun h26=>?_)
  ·replace h26:=bT h26
   have hn:needB y=false:=by simpa using h26
   refine Xt<|Te<|Bh<|Ps<|Rg<|Lv Ar<|Lv Mv<|Nl ?_
   have e1:cntV (l.take (k+1))=cntV (l.take k):=by rw[hcV,hn];rfl
   have e2:cntI (l.take (k+1))=cntI (l.take k):=by rw[hcI,hn];rfl
   have e3:endB s.id s.ver (l.take (k+1))=endB s.id s.ver (l.take k):=by unfold endB;rw[e1,e2]
   have e4:ftOne e0 y=true:=by unfold ftOne;rw[hn];rfl
   refine PQ.round (k+1) ⟨by omega,by rw[all_take hy1,hk2,e4];rfl⟩ (by omega) (by rw[e1,e2,e3];exact⟨rfl,rfl,rfl,rfl,rfl,rfl,rfl,rfl,rfl,trivial⟩) (by repeat(first|exact .nil|apply Pick.cons|exact .here|apply Ext.there))
  ·replace h26:=bF h26
   have hn:needB y=true:=by simpa using h26
   refine Sk<|Ps<|Sq<|Sq<|Rg<|Lv (Lw (l:=chC y))<|Lv Mv<|Le (CV fun w hw=>laid_c y 1 1 e0 w) fun _ _=>Le AA fun b12 _=>LeN (StW (cs:=blC (laidF y 1 1 e0))) fun _ _=>Nl<|Ps<|Sq<|Rg<|Lv (Lw (l:=blC (laidF y 1 1 e0)))<|Le (CV fun w hw=>may_c (laidF y 1 1 e0) ⟨by omega,by omega⟩ w) fun _ _=>Lv Nt<|Lv Mv ?_
   refine LW.split (d:=33) rfl (fun h33=>?_) (fun h33=>?_)
   ·replace h33:=bT h33
    refine Lp<|Lp<|Lp<|Lp<|Lp<|Lv Pt<|Nl<|Ps<|Ct<|Sq<|Rg<|Lv Av<|Nl<|Ps<|Rt<|Tr<|Br<|Tr<|Tr<|Br<|Tr<|Rt1 ?_
    have e1:fitsF2 s.id s.ver e0 l=3:=by
     unfold fitsF2;rw[if_neg]
     intro h8
     have h9:=List.all_eq_true.1 h8 y (List.mem_of_getElem? hy1)
     unfold ftOne at h9;simp_all
    rw[e1]
    intro w' hw;exact⟨rfl,hw.ro (by repeat(first|exact .nil|apply Pick.cons|exact .here|apply Ext.there)) hs⟩
   ·replace h33:=bF h33
    refine Lv (Fa 0 3)<|Lv (Ld (v:= .int .i64 (laidF y 1 1 e0).cls))<|Lv (Fa 10 3)<|Lv (Ld (v:= .int .i64 y.cls))<|Lv Cm<|Lv Pf<|Nl<|Ps ?_
    refine CW.cond rfl (fun h39=>?_) (fun h39=>?_)
    ·replace h39:=bT h39
     refine Sq<|Rg<|Lv Av<|Nl<|Ps<|Rt<|Tr<|Br<|Tr<|Tr<|Br<|Tr<|Rt1 ?_
     have e1:fitsF2 s.id s.ver e0 l=3:=by
      unfold fitsF2;rw[if_neg]
      intro h8
      have h9:=List.all_eq_true.1 h8 y (List.mem_of_getElem? hy1)
      unfold ftOne at h9;simp_all
     rw[e1]
     intro w' hw;exact⟨rfl,hw.ro (by repeat(first|exact .nil|apply Pick.cons|exact .here|apply Ext.there)) hs⟩
    ·replace h39:=bF h39
     refine Sk<|Ps<|Sq<|Rg<|Lv Mv<|Lv Ar<|Lv Av<|Nl<|Ps<|Sq<|Sq<|Rg<|Lv (Fa 0 3)<|Lv (Ld (v:= .int .i64 y.kind))<|Lv Cm<|Lv Mv ?_
     refine LW.split (d:=45) rfl (fun h45=>?_) (fun h45=>?_)
     ·replace h45:=bT h45
      refine Lp<|Lp<|Lp<|Lp<|Lp<|Lp<|Lp<|Lp<|Lv Pt<|Nl<|Ps<|Ct<|Rg<|Lv Mv<|Lv Ar<|Lv Av<|Nl<|Ps<|Rg<|Lv Mv<|Lv Mv ?_
      refine LW.split (d:=58) rfl (fun h58=>?_) (fun h58=>?_)
      ·replace h58:=bT h58
       have h58p:(2305843009213693952<s.ver+(cntV (l.take k):Int)∧0<cntV (l.take k)∨2305843009213693952<s.id+(cntI (l.take k):Int)∧0<cntV (l.take k)):=of_decide_eq_true h58
       refine Lp<|Lp<|Lv Pt<|Lv Mv<|Lp<|Lp<|Lv Pt<|Lv Av<|Nl<|Bn<|Ps<|Rg<|Lv Ar<|Lv Mv<|Nl ?_
       have e1:cntV (l.take (k+1))=cntV (l.take k)+1:=by rw[hcV,hn];rfl
       have hni:newId y=true:=by unfold newId;simp_all
       have e2:cntI (l.take (k+1))=cntI (l.take k)+1:=by rw[hcI,hn,hni];rfl
       have e4:ftOne e0 y=true:=by unfold ftOne;simp_all
       have e3:endB s.id s.ver (l.take (k+1))=true:=decide_eq_true (by omega)
       refine PQ.round (k+1) ⟨by omega,by rw[all_take hy1,hk2,e4];rfl⟩ (by omega) (by rw[e1,e2,e3];exact⟨rfl,rfl,rfl,congrArg (fun z=>some (Value.int .u64 z)) (by omega),congrArg (fun z=>some (Value.int .u64 z)) (by omega),rfl,rfl,rfl,rfl,trivial⟩) (by repeat(first|exact .nil|apply Pick.cons|exact .here|apply Ext.there))
      ·replace h58:=bF h58
       have h58p:¬(2305843009213693952<s.ver+(cntV (l.take k):Int)∧0<cntV (l.take k)∨2305843009213693952<s.id+(cntI (l.take k):Int)∧0<cntV (l.take k)):=of_decide_eq_false h58
       refine Lv Mv<|Lv Cm<|Lv Pf<|Lv Mv ?_
       refine LW.split (d:=62) rfl (fun h62=>?_) (fun h62=>?_)
       ·replace h62:=bT h62
        refine Lp<|Lp<|Lv Pt<|Lv Av<|Nl<|Bn<|Ps<|Rg<|Lv Ar<|Lv Mv<|Nl ?_
        have e1:cntV (l.take (k+1))=cntV (l.take k)+1:=by rw[hcV,hn];rfl
        have hni:newId y=true:=by unfold newId;simp_all
        have e2:cntI (l.take (k+1))=cntI (l.take k)+1:=by rw[hcI,hn,hni];rfl
        have e4:ftOne e0 y=true:=by unfold ftOne;simp_all
        have e3:endB s.id s.ver (l.take (k+1))=true:=decide_eq_true (by omega)
        refine PQ.round (k+1) ⟨by omega,by rw[all_take hy1,hk2,e4];rfl⟩ (by omega) (by rw[e1,e2,e3];exact⟨rfl,rfl,rfl,congrArg (fun z=>some (Value.int .u64 z)) (by omega),congrArg (fun z=>some (Value.int .u64 z)) (by omega),rfl,rfl,rfl,rfl,trivial⟩) (by repeat(first|exact .nil|apply Pick.cons|exact .here|apply Ext.there))
       ·replace h62:=bF h62
        refine Lv Mv<|Lv Cm<|Lv Pf<|Lv Av<|Nl<|Bn<|Ps<|Rg<|Lv Ar<|Lv Mv<|Nl ?_
        have e1:cntV (l.take (k+1))=cntV (l.take k)+1:=by rw[hcV,hn];rfl
        have hni:newId y=true:=by unfold newId;simp_all
        have e2:cntI (l.take (k+1))=cntI (l.take k)+1:=by rw[hcI,hn,hni];rfl
        have e4:ftOne e0 y=true:=by unfold ftOne;simp_all
        have e3:endB s.id s.ver (l.take (k+1))=decide (2305843009213693952<s.id+(cntI (l.take k):Int)+1):=decide_eq_decide.2 (by omega)
        refine PQ.round (k+1) ⟨by omega,by rw[all_take hy1,hk2,e4];rfl⟩ (by omega) (by rw[e1,e2,e3];exact⟨rfl,rfl,rfl,congrArg (fun z=>some (Value.int .u64 z)) (by omega),congrArg (fun z=>some (Value.int .u64 z)) (by omega),rfl,rfl,rfl,rfl,trivial⟩) (by repeat(first|exact .nil|apply Pick.cons|exact .here|apply Ext.there))
     ·replace h45:=bF h45
      refine Lv (Fa 0 3)<|Lv (Ld (v:= .int .i64 y.kind))<|Lv Cm<|Lv Mv ?_
      refine LW.split (d:=49) rfl (fun h49=>?_) (fun h49=>?_)
      ·replace h49:=bT h49
       refine Lv (Fa 3 4)<|Lv (Ld (v:= .bool y.had))<|Lv Nt<|Lv Pt<|Lv Pf<|Nl<|Ps ?_
       refine CW.cond rfl (fun h54=>?_) (fun h54=>?_)
       ·replace h54:=bT h54
        refine Rg<|Lv Mv<|Lv Ar<|Lv Av<|Nl<|Ps<|Rg<|Lv Mv<|Lv Mv ?_
        refine LW.split (d:=58) rfl (fun h58=>?_) (fun h58=>?_)
        ·replace h58:=bT h58
         have h58p:(2305843009213693952<s.ver+(cntV (l.take k):Int)∧0<cntV (l.take k)∨2305843009213693952<s.id+(cntI (l.take k):Int)∧0<cntV (l.take k)):=of_decide_eq_true h58
         refine Lp<|Lp<|Lv Pt<|Lv Mv<|Lp<|Lp<|Lv Pt<|Lv Av<|Nl<|Bn<|Ps<|Rg<|Lv Ar<|Lv Mv<|Nl ?_
         have e1:cntV (l.take (k+1))=cntV (l.take k)+1:=by rw[hcV,hn];rfl
         have hni:newId y=true:=by unfold newId;simp_all
         have e2:cntI (l.take (k+1))=cntI (l.take k)+1:=by rw[hcI,hn,hni];rfl
         have e4:ftOne e0 y=true:=by unfold ftOne;simp_all
         have e3:endB s.id s.ver (l.take (k+1))=true:=decide_eq_true (by omega)
         refine PQ.round (k+1) ⟨by omega,by rw[all_take hy1,hk2,e4];rfl⟩ (by omega) (by rw[e1,e2,e3];exact⟨rfl,rfl,rfl,congrArg (fun z=>some (Value.int .u64 z)) (by omega),congrArg (fun z=>some (Value.int .u64 z)) (by omega),rfl,rfl,rfl,rfl,trivial⟩) (by repeat(first|exact .nil|apply Pick.cons|exact .here|apply Ext.there))
        ·replace h58:=bF h58
         have h58p:¬(2305843009213693952<s.ver+(cntV (l.take k):Int)∧0<cntV (l.take k)∨2305843009213693952<s.id+(cntI (l.take k):Int)∧0<cntV (l.take k)):=of_decide_eq_false h58
         refine Lv Mv<|Lv Cm<|Lv Pf<|Lv Mv ?_
         refine LW.split (d:=62) rfl (fun h62=>?_) (fun h62=>?_)
         ·replace h62:=bT h62
          refine Lp<|Lp<|Lv Pt<|Lv Av<|Nl<|Bn<|Ps<|Rg<|Lv Ar<|Lv Mv<|Nl ?_
          have e1:cntV (l.take (k+1))=cntV (l.take k)+1:=by rw[hcV,hn];rfl
          have hni:newId y=true:=by unfold newId;simp_all
          have e2:cntI (l.take (k+1))=cntI (l.take k)+1:=by rw[hcI,hn,hni];rfl
          have e4:ftOne e0 y=true:=by unfold ftOne;simp_all
          have e3:endB s.id s.ver (l.take (k+1))=true:=decide_eq_true (by omega)
          refine PQ.round (k+1) ⟨by omega,by rw[all_take hy1,hk2,e4];rfl⟩ (by omega) (by rw[e1,e2,e3];exact⟨rfl,rfl,rfl,congrArg (fun z=>some (Value.int .u64 z)) (by omega),congrArg (fun z=>some (Value.int .u64 z)) (by omega),rfl,rfl,rfl,rfl,trivial⟩) (by repeat(first|exact .nil|apply Pick.cons|exact .here|apply Ext.there))
         ·replace h62:=bF h62
          refine Lv Mv<|Lv Cm<|Lv Pf<|Lv Av<|Nl<|Bn<|Ps<|Rg<|Lv Ar<|Lv Mv<|Nl ?_
          have e1:cntV (l.take (k+1))=cntV (l.take k)+1:=by rw[hcV,hn];rfl
          have hni:newId y=true:=by unfold newId;simp_all
          have e2:cntI (l.take (k+1))=cntI (l.take k)+1:=by rw[hcI,hn,hni];rfl
          have e4:ftOne e0 y=true:=by unfold ftOne;simp_all
          have e3:endB s.id s.ver (l.take (k+1))=decide (2305843009213693952<s.id+(cntI (l.take k):Int)+1):=decide_eq_decide.2 (by omega)
          refine PQ.round (k+1) ⟨by omega,by rw[all_take hy1,hk2,e4];rfl⟩ (by omega) (by rw[e1,e2,e3];exact⟨rfl,rfl,rfl,congrArg (fun z=>some (Value.int .u64 z)) (by omega),congrArg (fun z=>some (Value.int .u64 z)) (by omega),rfl,rfl,rfl,rfl,trivial⟩) (by repeat(first|exact .nil|apply Pick.cons|exact .here|apply Ext.there))
       ·replace h54:=bF h54
        refine Sk<|Ps<|Rg<|Lv Mv<|Lv Mv ?_
        refine LW.split (d:=58) rfl (fun h58=>?_) (fun h58=>?_)
        ·replace h58:=bT h58
         have h58p:(2305843009213693952<s.ver+(cntV (l.take k):Int)∧0<cntV (l.take k)∨2305843009213693952<s.id+(cntI (l.take k):Int)∧0<cntV (l.take k)):=of_decide_eq_true h58
         refine Lp<|Lp<|Lv Pt<|Lv Mv<|Lp<|Lp<|Lv Pt<|Lv Av<|Nl<|Bn<|Ps<|Rg<|Lv Ar<|Lv Mv<|Nl ?_
         have e1:cntV (l.take (k+1))=cntV (l.take k)+1:=by rw[hcV,hn];rfl
         have hni:newId y=false:=by unfold newId;simp_all
         have e2:cntI (l.take (k+1))=cntI (l.take k):=by rw[hcI,hn,hni];rfl
         have e4:ftOne e0 y=true:=by unfold ftOne;simp_all
         have e3:endB s.id s.ver (l.take (k+1))=true:=decide_eq_true (by omega)
         refine PQ.round (k+1) ⟨by omega,by rw[all_take hy1,hk2,e4];rfl⟩ (by omega) (by rw[e1,e2,e3];exact⟨rfl,rfl,rfl,rfl,congrArg (fun z=>some (Value.int .u64 z)) (by omega),rfl,rfl,rfl,rfl,trivial⟩) (by repeat(first|exact .nil|apply Pick.cons|exact .here|apply Ext.there))
        ·replace h58:=bF h58
         have h58p:¬(2305843009213693952<s.ver+(cntV (l.take k):Int)∧0<cntV (l.take k)∨2305843009213693952<s.id+(cntI (l.take k):Int)∧0<cntV (l.take k)):=of_decide_eq_false h58
         refine Lv Mv<|Lv Cm<|Lv Pf<|Lv Mv ?_
         refine LW.split (d:=62) rfl (fun h62=>?_) (fun h62=>?_)
         ·replace h62:=bT h62
          refine Lp<|Lp<|Lv Pt<|Lv Av<|Nl<|Bn<|Ps<|Rg<|Lv Ar<|Lv Mv<|Nl ?_
          have e1:cntV (l.take (k+1))=cntV (l.take k)+1:=by rw[hcV,hn];rfl
          have hni:newId y=false:=by unfold newId;simp_all
          have e2:cntI (l.take (k+1))=cntI (l.take k):=by rw[hcI,hn,hni];rfl
          have e4:ftOne e0 y=true:=by unfold ftOne;simp_all
          have e3:endB s.id s.ver (l.take (k+1))=true:=decide_eq_true (by omega)
          refine PQ.round (k+1) ⟨by omega,by rw[all_take hy1,hk2,e4];rfl⟩ (by omega) (by rw[e1,e2,e3];exact⟨rfl,rfl,rfl,rfl,congrArg (fun z=>some (Value.int .u64 z)) (by omega),rfl,rfl,rfl,rfl,trivial⟩) (by repeat(first|exact .nil|apply Pick.cons|exact .here|apply Ext.there))
         ·replace h62:=bF h62
          refine Lv Mv<|Lv Cm<|Lv Pf<|Lv Av<|Nl<|Bn<|Ps<|Rg<|Lv Ar<|Lv Mv<|Nl ?_
          have e1:cntV (l.take (k+1))=cntV (l.take k)+1:=by rw[hcV,hn];rfl
          have hni:newId y=false:=by unfold newId;simp_all
          have e2:cntI (l.take (k+1))=cntI (l.take k):=by rw[hcI,hn,hni];rfl
          have e4:ftOne e0 y=true:=by unfold ftOne;simp_all
          have e3:endB s.id s.ver (l.take (k+1))=decide (2305843009213693952<s.id+(cntI (l.take k):Int)):=decide_eq_decide.2 (by omega)
          refine PQ.round (k+1) ⟨by omega,by rw[all_take hy1,hk2,e4];rfl⟩ (by omega) (by rw[e1,e2,e3];exact⟨rfl,rfl,rfl,rfl,congrArg (fun z=>some (Value.int .u64 z)) (by omega),rfl,rfl,rfl,rfl,trivial⟩) (by repeat(first|exact .nil|apply Pick.cons|exact .here|apply Ext.there))
      ·replace h49:=bF h49
       refine Lp<|Lp<|Lp<|Lv Pf<|Lv Pf<|Nl<|Ps<|Cf<|Sk<|Ps<|Rg<|Lv Mv<|Lv Mv ?_
       refine LW.split (d:=58) rfl (fun h58=>?_) (fun h58=>?_)
       ·replace h58:=bT h58
        have h58p:(2305843009213693952<s.ver+(cntV (l.take k):Int)∧0<cntV (l.take k)∨2305843009213693952<s.id+(cntI (l.take k):Int)∧0<cntV (l.take k)):=of_decide_eq_true h58
        refine Lp<|Lp<|Lv Pt<|Lv Mv<|Lp<|Lp<|Lv Pt<|Lv Av<|Nl<|Bn<|Ps<|Rg<|Lv Ar<|Lv Mv<|Nl ?_
        have e1:cntV (l.take (k+1))=cntV (l.take k)+1:=by rw[hcV,hn];rfl
        have hni:newId y=false:=by unfold newId;simp_all
        have e2:cntI (l.take (k+1))=cntI (l.take k):=by rw[hcI,hn,hni];rfl
        have e4:ftOne e0 y=true:=by unfold ftOne;simp_all
        have e3:endB s.id s.ver (l.take (k+1))=true:=decide_eq_true (by omega)
        refine PQ.round (k+1) ⟨by omega,by rw[all_take hy1,hk2,e4];rfl⟩ (by omega) (by rw[e1,e2,e3];exact⟨rfl,rfl,rfl,rfl,congrArg (fun z=>some (Value.int .u64 z)) (by omega),rfl,rfl,rfl,rfl,trivial⟩) (by repeat(first|exact .nil|apply Pick.cons|exact .here|apply Ext.there))
       ·replace h58:=bF h58
        have h58p:¬(2305843009213693952<s.ver+(cntV (l.take k):Int)∧0<cntV (l.take k)∨2305843009213693952<s.id+(cntI (l.take k):Int)∧0<cntV (l.take k)):=of_decide_eq_false h58
        refine Lv Mv<|Lv Cm<|Lv Pf<|Lv Mv ?_
        refine LW.split (d:=62) rfl (fun h62=>?_) (fun h62=>?_)
        ·replace h62:=bT h62
         refine Lp<|Lp<|Lv Pt<|Lv Av<|Nl<|Bn<|Ps<|Rg<|Lv Ar<|Lv Mv<|Nl ?_
         have e1:cntV (l.take (k+1))=cntV (l.take k)+1:=by rw[hcV,hn];rfl
         have hni:newId y=false:=by unfold newId;simp_all
         have e2:cntI (l.take (k+1))=cntI (l.take k):=by rw[hcI,hn,hni];rfl
         have e4:ftOne e0 y=true:=by unfold ftOne;simp_all
         have e3:endB s.id s.ver (l.take (k+1))=true:=decide_eq_true (by omega)
         refine PQ.round (k+1) ⟨by omega,by rw[all_take hy1,hk2,e4];rfl⟩ (by omega) (by rw[e1,e2,e3];exact⟨rfl,rfl,rfl,rfl,congrArg (fun z=>some (Value.int .u64 z)) (by omega),rfl,rfl,rfl,rfl,trivial⟩) (by repeat(first|exact .nil|apply Pick.cons|exact .here|apply Ext.there))
        ·replace h62:=bF h62
         refine Lv Mv<|Lv Cm<|Lv Pf<|Lv Av<|Nl<|Bn<|Ps<|Rg<|Lv Ar<|Lv Mv<|Nl ?_
         have e1:cntV (l.take (k+1))=cntV (l.take k)+1:=by rw[hcV,hn];rfl
         have hni:newId y=false:=by unfold newId;simp_all
         have e2:cntI (l.take (k+1))=cntI (l.take k):=by rw[hcI,hn,hni];rfl
         have e4:ftOne e0 y=true:=by unfold ftOne;simp_all
         have e3:endB s.id s.ver (l.take (k+1))=decide (2305843009213693952<s.id+(cntI (l.take k):Int)):=decide_eq_decide.2 (by omega)
         refine PQ.round (k+1) ⟨by omega,by rw[all_take hy1,hk2,e4];rfl⟩ (by omega) (by rw[e1,e2,e3];exact⟨rfl,rfl,rfl,rfl,congrArg (fun z=>some (Value.int .u64 z)) (by omega),rfl,rfl,rfl,rfl,trivial⟩) (by repeat(first|exact .nil|apply Pick.cons|exact .here|apply Ext.there))
 ·replace h21:=bF h21
  refine Xt<|Te<|Te<|Bh<|Ps<|Sq<|Sq<|Rg<|Lv Mv<|Nl<|Ps ?_
  refine CW.cond rfl (fun h67=>?_) (fun h67=>?_)
  ·replace h67:=bT h67
   refine Sq<|Rg<|Lv Av<|Nl<|Ps<|Rt<|Tr<|Rt1 ?_
   have hke:k=l.length:=by omega
   subst hke
   rw[List.take_of_length_le (Nat.le_refl _)] at hk2 h67
   have e1:fitsF2 s.id s.ver e0 l=10:=by unfold fitsF2;rw[if_pos hk2];exact if_pos (of_decide_eq_true h67)
   rw[e1]
   intro w' hw;exact⟨rfl,hw.ro (by repeat(first|exact .nil|apply Pick.cons|exact .here|apply Ext.there)) hs⟩
  ·replace h67:=bF h67
   refine Sk<|Ps<|Sq<|Rg<|Lv Av<|Nl<|Ps<|Rt<|Rt1 ?_
   have hke:k=l.length:=by omega
   subst hke
   rw[List.take_of_length_le (Nat.le_refl _)] at hk2 h67
   have e1:fitsF2 s.id s.ver e0 l=0:=by unfold fitsF2;rw[if_pos hk2];exact if_neg (of_decide_eq_false h67)
   rw[e1]
   intro w' hw;exact⟨rfl,hw.ro (by repeat(first|exact .nil|apply Pick.cons|exact .here|apply Ext.there)) hs⟩
theorem places298:∀w,((Array.mapM (fun(f:Field)=>do pure (f.offset,← sizeOf f.type)) (Tryz.prog.fieldsOf 298):Sem (Array (Nat×Nat)))).run Tryz.prog w= .ok [(0,1),(1,1),(2,1),(3,1),(4,1),(5,1),(6,1)].toArray w:=by
 intro w;kernel_rfl
instance:Plc Tryz.prog 298 (fOf Tryz.underlying298) (lOf (P:=Tryz.prog) places298):=⟨places298,Tryz.underlying298⟩
instance:Cal Tryz.prog 377:=⟨Tryz.call377⟩
instance:Cal Tryz.prog 379:=⟨Tryz.call379⟩
instance:Cal Tryz.prog 442:=⟨Tryz.call442⟩
instance:Cal Tryz.prog 443:=⟨Tryz.call443⟩
instance:Cal Tryz.prog 444:=⟨Tryz.call444⟩
structure AS where
 L:List Slb
 rd:Rdr
 ck:Ck
 bg:List Ent
 Tz:Tbl
 D:List (List Lk)
 q:List Lk
 id:Int
 ver:Int
 ef:List Eft
structure ArIs (x:ArR)(s:ArS)(a:AS):Prop where
 L:s.L=a.L
 rd:s.rd=a.rd
 ck:s.ck=ckk x.cb a.ck
 bg:s.bg=a.bg
 Tz:s.Tz=a.Tz
 D:s.Lz.map Prod.fst=a.D
 q:rgQ s.rg=a.q
 id:s.id=a.id
 ver:s.ver=a.ver
 ef:s.ef=a.ef
structure AS.Sz (a:AS):Prop where
 st:tStp a.Tz
 t:(tLinks a.Tz).length≤900
 d:∀l∈a.D,l.length≤900
 q:a.q.length≤900
 b:a.bg.length≤900
 e:a.ef.length≤90000
 id:0≤a.id∧a.id≤4611686018427387904
 ver:0≤a.ver∧a.ver≤4611686018427387904
def kNotes (c:Ck)(t line:Int):Nat→Ck
 |0=>c
 |k+1=>kNote (kNotes c t line k) t (line+(k:Nat))
theorem kNotes_ok {th:Nat}{c:Ck}(h:c.Ok th)(t line:Int):∀k,(kNotes c t line k).Ok th
 |0=>h
 |k+1=>kNote_ok (kNotes_ok h t line k) _ _
def chN (a:AS)(y:Chg):Int:=if newId y=true then a.id+1 else a.id
def chId (a:AS)(y:Chg):Int:=if newId y=true then a.id+1 else y.old.id
def chB (a:AS)(y:Chg)(e:Int):Blk:=laidF y (chId a y) (a.ver+1) e
def chL (a:AS)(y:Chg)(e:Int):Lk:=⟨(chB a y e).key,chId a y,a.ver+1,y.line,(chB a y e).cls⟩
def chG (a:AS)(grp:Int):Int:=if grp=0 then a.ver+1 else grp
def chE (a:AS)(y:Chg)(e grp:Int):Eft:=⟨if y.kind=2 then 1 else if y.kind=3 then 2 else if y.kind=4 then 3 else if y.kind=5 then 4 else 0,if y.kind=3 then y.key else(chB a y e).key,(chB a y e).val,chId a y,a.ver+1,e,IntKind.i64.wrap (chG a grp)⟩
def chX (y:Chg):Int:=if y.kind=3∨y.kind=5 then y.line else -1
def chT (a:AS)(y:Chg)(e:Int):Tbl:=if y.kind=2 then tSet a.Tz (chL a y e) else if y.kind=3 then tDrop a.Tz y.key else a.Tz
def chD (a:AS)(y:Chg)(e:Int):List (List Lk):=if y.kind=2 then oset a.D (chL a y e) else if y.kind=3 then odrop a.D y.key else a.D
def chQ (a:AS)(y:Chg)(e:Int):List Lk:=if y.kind=4 then a.q++[chL a y e] else if y.kind=5 then a.q.tail else a.q
def chP (a:AS)(y:Chg)(e:Int):Ent:=⟨y.old.line,y.old.cls,a.rd.now,e,chX y⟩
def chOut (y:Chg):Bool:=y.had&& !decide (y.kind=4)
def chA (t e:Int)(a:AS)(y:Chg)(grp:Int):AS:={a with id:=chN a y,ver:=a.ver+1,ck:=kNotes a.ck t y.line (spanF (chB a y e).cls),Tz:=chT a y e,D:=chD a y e,q:=chQ a y e,bg:=if chOut y=true then bPut a.bg (chP a y e) else a.bg,ef:=a.ef++[chE a y e grp]}
def chDev (e:Int)(a:AS)(v:Dev)(y:Chg):Dev:=v.store y.line 0 ((encL (chB a y e)).take 64)
def arCC (x:ArR)(id ver:Int)(n:Nat)(eo:V.OwnO):List Value:=[.pointer (some ⟨x.dv,0,none⟩),.pointer (some ⟨x.pb,0,none⟩),.pointer (some ⟨x.rb,0,none⟩),.pointer (some ⟨x.cb,0,none⟩),.pointer (some ⟨x.lb,0,none⟩),.pointer (some ⟨x.tb,0,none⟩),.pointer (some ⟨x.ob,0,none⟩),.pointer (some ⟨x.fb,0,none⟩),.int .u64 id,.int .u64 ver,ownV n eo]
theorem enc_take {b:Blk}(hm:mayF b=true):((encL b).take 64).length=64:=by
 have h1:=encL_len hm
 have h2:=may_span hm
 rw[List.length_take,h1];omega
theorem push_len {r:Rng}{x:Lk}(h:rgOk r)(hR:r.R.length≤2000)(hn:(rgQ r).length≤900):(r.push x).R.length≤max r.R.length 1801:=by
 have h1:=rgQ_len r
 unfold Rng.push
 split
 ·rename_i h2
  simp only[List.length_append,List.length_drop,List.length_take,List.length_singleton]
  omega
 ·simp only[List.length_set];omega
theorem pop_len (r:Rng){m:Nat}:r.pop.R.length≤max r.R.length m:=by
 unfold Rng.pop
 split
 ·omega
 ·simp only[List.length_set];omega
theorem chT_ok {ms:List Nat}{a:AS}(h:tbOk ms a.Tz)(y:Chg)(e:Int):tbOk ms (chT a y e):=by
 unfold chT
 split
 ·exact tSet_ok h _
 ·split
  ·exact tDrop_ok h _
  ·exact h
theorem change_g (x:ArR)(s:ArS)(th n:Nat)(a:AS)(xd:DvR)(v:Dev)(hA:ArOk th n x s)(hI:ArIs x s a)(hz:a.Sz)(hR:s.rg.R.length≤2000)(t e0 grp:Int)(y:Chg)(hm:mayF (chB a y e0)=true)(hyl:y.key.length≤3000∧y.val.length≤100000)(hln:0≤y.line∧y.line≤1000)(w:World)(hs:Sat (arS x s xd.db++vS xd v) w):Calls Tryz.prog 410 [.pointer (some ⟨x.a,0,none⟩),.int .i64 t,.int .u64 e0,chV y,.int .u64 grp].toArray w fun e w'=>∃s':ArS,(ArOk th n x s'∧ArIs x s' (chA t e0 a y grp)∧s'.rg.R.length≤max s.rg.R.length 1801)∧e= .returned (.int .u64 (a.ver+1))∧Hp ⟨w,V.ids ((arS x s xd.db++vS xd v))⟩ (arS x s' xd.db++vS xd (chDev e0 a v y)) w':=by
 obtain⟨dn,m1,m2,L,rd,ck,bg,bo,Tz,Lz,rg,ro,id,ver,ef,eo⟩:=s
 obtain⟨h1,h2,h3,h4,h5,hD,hQ,h6,h7,h8⟩:=hI
 simp only at h1 h2 h3 h4 h5 hD hQ h6 h7 h8 hR
 subst h1;subst h2;subst h3;subst h4;subst h5;subst h6;subst h7;subst h8
 have hck:a.ck.Ok th:=hA.ck
 have hid:=hz.id
 have hver:=hz.ver
 have hel:=hz.e
 have hbl:=hz.b
 have hql:=hz.q
 have hOd:odOk Lz:=⟨hA.od.1,fun p hp=>⟨hA.od.2 p hp,hz.d p.1 (by rw[← hD];exact List.mem_map_of_mem hp)⟩⟩
 have hsp:=may_span hm
 have hsp9:=span_le (chB a y e0).cls
 have hel64:=encL_len hm
 have htk:=enc_take hm
 have hlL:=laid_len (id:=chId a y) (ver:=a.ver+1) (e:=e0) hyl
 refine V.calls _ Tryz.func410 rfl Tryz.ntmps410 (Nat.le_of_ble_eq_true rfl) hs<|Sq<|Rg<|Le XA fun b8 _=>Lv Av<|Nl<|Ps<|Sq<|Rg<|Lv Mv<|Lv Nz<|Lv (Fa 9 164)<|Le (CM ([[(x.a,.cells (arCC x a.id a.ver a.ef.length eo).toArray 166 (0,0))]]) fun w hw hs0=>uAdd_c x.a 9 (arCC x a.id a.ver a.ef.length eo) 166 a.ver rfl 1 w hs0) fun _ _=>?_
 rw[IntWalk.u64_in _ (show 0≤a.ver+1∧a.ver+1≤18446744073709551615 by omega),show(arCC x a.id a.ver a.ef.length eo).set 9 (.int .u64 (a.ver+1))=arCC x a.id (a.ver+1) a.ef.length eo from rfl]
 refine Lv Av<|Nl<|Ps<|Sq<|Rg<|Lv (Fa 4 94)<|Lv (Fa 1 92)<|Lv (Ld (v:= .int .u64 y.old.id))<|Lv Av<|Nl<|Ps<|Sq ?_
 refine CW.join (fun _:Unit=>True) (fun _=>[(0,.pointer (some ⟨x.a,0,none⟩)),(1,.int .i64 t),(2,.int .u64 e0),(8,.pointer (some ⟨b8,0,none⟩)),(11,.int .u64 (a.ver+1)),(4,.int .u64 grp),(12,.int .u64 (chId a y))]) (fun _=>([(b8,.cells (chC y).toArray 473 (0,0))]::[(x.a,.cells (arCC x (chN a y) (a.ver+1) (a.ef.length) eo).toArray 166 (0,0))]::[(x.dv,.cells [.pointer (some ⟨xd.db,0,none⟩),.int .u32 dn,.int .i32 m1,.int .u32 m2].toArray 178 (0,0))]::(plS x.pb x.sb a.L++(rdS x.rb x.hb a.rd++(kS x.cb x.wb (a.ck)++(bgS x.lb (a.bg) bo++(tbS x.tb x.ms (a.Tz)++(odS x.ob Lz++(rgS 277 x.fb rg ro++([ownG 298 ((a.ef).flatMap efC) eo]++vS xd (v))))))))))) ?_ ?_
 ·refine Sq ?_
  refine CW.regJoin (fun _:Unit=>True) (fun _=>[(0,.pointer (some ⟨x.a,0,none⟩)),(1,.int .i64 t),(2,.int .u64 e0),(8,.pointer (some ⟨b8,0,none⟩)),(11,.int .u64 (a.ver+1)),(4,.int .u64 grp),(12,.int .u64 y.old.id),(39,.bool (newId y))]) (fun _=>([(b8,.cells (chC y).toArray 473 (0,0))]::[(x.a,.cells (arCC x (a.id) (a.ver+1) (a.ef.length) eo).toArray 166 (0,0))]::[(x.dv,.cells [.pointer (some ⟨xd.db,0,none⟩),.int .u32 dn,.int .i32 m1,.int .u32 m2].toArray 178 (0,0))]::(plS x.pb x.sb a.L++(rdS x.rb x.hb a.rd++(kS x.cb x.wb (a.ck)++(bgS x.lb (a.bg) bo++(tbS x.tb x.ms (a.Tz)++(odS x.ob Lz++(rgS 277 x.fb rg ro++([ownG 298 ((a.ef).flatMap efC) eo]++vS xd (v))))))))))) ?_ ?_
  ·refine Rg<|Lv (Fa 0 3)<|Lv (Ld (v:= .int .i64 y.kind))<|Lv Cm<|Lv Mv ?_
   refine LW.split (d:=30) rfl (fun h30=>?_) (fun h30=>?_)
   ·replace h30:=bT h30
    refine Lp<|Lp<|Lp<|Lp<|Lp<|Lp<|Lp<|Lp<|Lv Pt<|Nl ?_
    refine PQ.joined (()) (trivial) (by exact⟨rfl,rfl,rfl,rfl,rfl,rfl,rfl,congrArg (fun b=>some (Value.bool b)) (by unfold newId;simp_all),trivial⟩) (by repeat(first|exact .nil|apply Pick.cons|exact .here|apply Ext.there))
   ·replace h30:=bF h30
    refine Lv (Fa 0 3)<|Lv (Ld (v:= .int .i64 y.kind))<|Lv Cm<|Lv Mv ?_
    refine LW.split (d:=34) rfl (fun h34=>?_) (fun h34=>?_)
    ·replace h34:=bT h34
     refine Lv (Fa 3 4)<|Lv (Ld (v:= .bool y.had))<|Lv Nt<|Lv Pt<|Lv Pf<|Nl ?_
     refine PQ.joined (()) (trivial) (by exact⟨rfl,rfl,rfl,rfl,rfl,rfl,rfl,congrArg (fun b=>some (Value.bool b)) (by unfold newId;simp_all),trivial⟩) (by repeat(first|exact .nil|apply Pick.cons|exact .here|apply Ext.there))
    ·replace h34:=bF h34
     refine Lp<|Lp<|Lp<|Lv Pf<|Lv Pf<|Nl ?_
     refine PQ.joined (()) (trivial) (by exact⟨rfl,rfl,rfl,rfl,rfl,rfl,rfl,congrArg (fun b=>some (Value.bool b)) (by unfold newId;simp_all),trivial⟩) (by repeat(first|exact .nil|apply Pick.cons|exact .here|apply Ext.there))
  ·intro _ _
   refine Ps ?_
   refine CW.cond rfl (fun h39=>?_) (fun h39=>?_)
   ·replace h39:=bT h39
    have h39:newId y=true:=h39
    refine Rg<|Lv Mv<|Lv Nz<|Lv (Fa 8 164)<|Le (CM ([[(x.a,.cells (arCC x a.id (a.ver+1) a.ef.length eo).toArray 166 (0,0))]]) fun w hw hs0=>uAdd_c x.a 8 (arCC x a.id (a.ver+1) a.ef.length eo) 166 a.id rfl 1 w hs0) fun _ _=>?_
    rw[IntWalk.u64_in _ (show 0≤a.id+1∧a.id+1≤18446744073709551615 by omega),show(arCC x a.id (a.ver+1) a.ef.length eo).set 8 (.int .u64 (a.id+1))=arCC x (a.id+1) (a.ver+1) a.ef.length eo from rfl]
    refine Lv Av<|Nl ?_
    have e1:chN a y=a.id+1:=if_pos h39
    have e2:chId a y=a.id+1:=if_pos h39
    rw[← e1]
    refine PQ.joinedC (()) (trivial) (by first|(rw[e2,← e1];exact⟨rfl,rfl,rfl,rfl,rfl,rfl,rfl,trivial⟩)|(rw[e2];exact⟨rfl,rfl,rfl,rfl,rfl,rfl,rfl,trivial⟩)) (by repeat(first|exact .nil|apply Pick.cons|exact .here|apply Ext.there))
   ·replace h39:=bF h39
    have h39:newId y=false:=h39
    refine Sk ?_
    have e1:chN a y=a.id:=if_neg (by simp[h39])
    have e2:chId a y=y.old.id:=if_neg (by simp[h39])
    rw[← e1]
    refine PQ.joinedC (()) (trivial) (by first|(rw[e2,← e1];exact⟨rfl,rfl,rfl,rfl,rfl,rfl,rfl,trivial⟩)|(rw[e2];exact⟨rfl,rfl,rfl,rfl,rfl,rfl,rfl,trivial⟩)) (by repeat(first|exact .nil|apply Pick.cons|exact .here|apply Ext.there))
 ·intro _ _
  refine Ps<|Sq ?_
  refine CW.join (fun _:Unit=>True) (fun _=>[(0,.pointer (some ⟨x.a,0,none⟩)),(1,.int .i64 t),(2,.int .u64 e0),(8,.pointer (some ⟨b8,0,none⟩)),(11,.int .u64 (a.ver+1)),(4,.int .u64 (chG a grp)),(12,.int .u64 (chId a y))]) (fun _=>([(b8,.cells (chC y).toArray 473 (0,0))]::[(x.a,.cells (arCC x (chN a y) (a.ver+1) (a.ef.length) eo).toArray 166 (0,0))]::[(x.dv,.cells [.pointer (some ⟨xd.db,0,none⟩),.int .u32 dn,.int .i32 m1,.int .u32 m2].toArray 178 (0,0))]::(plS x.pb x.sb a.L++(rdS x.rb x.hb a.rd++(kS x.cb x.wb (a.ck)++(bgS x.lb (a.bg) bo++(tbS x.tb x.ms (a.Tz)++(odS x.ob Lz++(rgS 277 x.fb rg ro++([ownG 298 ((a.ef).flatMap efC) eo]++vS xd (v))))))))))) ?_ ?_
  ·refine Sq<|Rg<|Lv Mv<|Lv Cm<|Nl<|Ps ?_
   refine CW.cond rfl (fun h45=>?_) (fun h45=>?_)
   ·replace h45:=bT h45
    have h45:grp=0:=h45
    refine Rg<|Lv Mv<|Lv Av<|Nl ?_
    have e2:chG a grp=a.ver+1:=if_pos h45
    refine PQ.joinedC (()) (trivial) (by rw[e2];exact⟨rfl,rfl,rfl,rfl,rfl,rfl,rfl,trivial⟩) (by repeat(first|exact .nil|apply Pick.cons|exact .here|apply Ext.there))
   ·replace h45:=bF h45
    have h45:¬grp=0:=h45
    refine Sk ?_
    have e2:chG a grp=grp:=if_neg h45
    refine PQ.joinedC (()) (trivial) (by rw[e2];exact⟨rfl,rfl,rfl,rfl,rfl,rfl,rfl,trivial⟩) (by repeat(first|exact .nil|apply Pick.cons|exact .here|apply Ext.there))
  ·intro _ _
   refine Ps<|Sq<|Rg<|Lv (Lw (l:=chC y))<|Lv Mv<|Lv Mv<|Lv Mv<|Le (CV fun w hw=>laid_c y (chId a y) (a.ver+1) e0 w) fun _ _=>LW.re 51 (.agg (blC (chB a y e0)).toArray) rfl (by rfl)<|Le AA fun b13 _=>LeN (StW (cs:=blC (chB a y e0))) fun _ _=>Nl<|Ps<|Sq<|Rg<|Lv (Lw (l:=blC (chB a y e0)))<|Le (CM [] fun w hw hs0=>encode_c (chB a y e0) ⟨by unfold chB;omega,by unfold chB;omega⟩ w) fun o ho=>?_
   have hE:encR (chB a y e0)=encL (chB a y e0):=by unfold encR;rw[if_pos hm]
   rw[hE] at ho⊢
   obtain⟨pe,ce,hve,hce,hsrc,hse⟩:=own_src ho
   obtain⟨be,hbe,_⟩:=hsrc (by omega)
   subst hbe
   refine LW.re 54 (.tuple #[.slice (some ⟨be,0,none⟩) (encL (chB a y e0)).length ce,.int .i64 0]) rfl (by rw[hve,if_pos hm])<|Lv Mv<|Lv Ex<|Lv Ex<|Lv Av<|Lv Av<|Nl<|Ps<|Sq<|Dr (([[(b8,.cells (chC y).toArray 473 (0,0))],[(x.a,.cells (arCC x (chN a y) (a.ver+1) (a.ef.length) eo).toArray 166 (0,0))]]++[[(x.dv,.cells [.pointer (some ⟨xd.db,0,none⟩),.int .u32 dn,.int .i32 m1,.int .u32 m2].toArray 178 (0,0))],ownG 5 (byC (encL (chB a y e0))) o]))<|Rv 0 rfl Mv<|Rv 2 rfl (Fa 9 3)<|Rv 3 rfl (Ld (v:= .int .i64 y.line))<|Rv 4 rfl Mv<|Rv 5 rfl (Val.slice 0 64 ce rfl Tryz.underlying30 Tryz.sizeOf5 rfl ⟨_,rfl⟩ rfl (fun h=>by cases h) (by omega) (by omega) (by omega))<|RW.re 62 (.slice (some ⟨be,0,none⟩) 64 ce) rfl (by simp)<|Re 1 rfl (CV fun w hw=>adev_g x ⟨dn,m1,m2,a.L,a.rd,ckk x.cb a.ck,a.bg,bo,a.Tz,Lz,rg,ro,chN a y,a.ver+1,a.ef,eo⟩ xd.db w hw.at hw.at) fun _ _=>Re 6 rfl (CM (vS xd v) fun w hw hs0=>by have h7:=V.slAt_part (hse hw (show Pick [ownG 5 (byC (encL (chB a y e0))) o] _ _ from(by repeat(first|exact .nil|apply Pick.cons|exact .here|apply Ext.there)))) (k:=0) (by omega) hce 64;rw[if_neg (by omega)] at h7;have h6:V.slAt w (some ⟨be,0,none⟩) 1 byE ((encL (chB a y e0)).take 64):=(by simpa[Addr.add_mid] using h7);have h8:=store_v xd v y.line 0 ((encL (chB a y e0)).take 64) (some ⟨be,0,none⟩) ce (by rw[htk];omega) w hs0 h6 (fun _ b q hb=>by simp only[Option.some.injEq,Addr.mk.injEq] at hb;obtain⟨rfl,_⟩:=hb;exact own_not hw hve (show Pick (ownG 5 (byC (encL (chB a y e0))) o::vS xd v) _ _ from(by repeat(first|exact .nil|apply Pick.cons|exact .here|apply Ext.there))) be 0 rfl);rw[htk] at h8;exact h8) fun _ _=>?_
   rw[show v.store y.line 0 ((encL (chB a y e0)).take 64)=(chDev e0 a v y) from rfl]
   refine Rd<|Ps<|Sq<|Sq<|Rg<|Lv (Fa 0 3)<|Lv (Ld (v:= .int .i64 (chB a y e0).cls))<|Le (CV fun w hw=>span_c (chB a y e0).cls w) fun _ _=>Lv Mv<|Nl<|Ps<|Bk<|loopA (γ:=Nat) (fun k=>[(0,.pointer (some ⟨x.a,0,none⟩)),(1,.int .i64 t),(2,.int .u64 e0),(8,.pointer (some ⟨b8,0,none⟩)),(11,.int .u64 (a.ver+1)),(4,.int .u64 (chG a grp)),(12,.int .u64 (chId a y)),(13,.pointer (some ⟨b13,0,none⟩)),(66,.int .i64 (spanF (chB a y e0).cls:Nat)),(67,.int .i64 (k:Nat))]) (fun k=>([(b8,.cells (chC y).toArray 473 (0,0))]::[(b13,.cells (blC (chB a y e0)).toArray 308 (0,0))]::[(x.a,.cells (arCC x (chN a y) (a.ver+1) (a.ef.length) eo).toArray 166 (0,0))]::[(x.dv,.cells [.pointer (some ⟨xd.db,0,none⟩),.int .u32 dn,.int .i32 m1,.int .u32 m2].toArray 178 (0,0))]::(plS x.pb x.sb a.L++(rdS x.rb x.hb a.rd++(kS x.cb x.wb ((kNotes a.ck t y.line k))++(bgS x.lb (a.bg) bo++(tbS x.tb x.ms (a.Tz)++(odS x.ob Lz++(rgS 277 x.fb rg ro++([ownG 298 ((a.ef).flatMap efC) eo]++vS xd ((chDev e0 a v y)))))))))))) (fun k=>k≤spanF (chB a y e0).cls) (fun k=>spanF (chB a y e0).cls-k) (0) (Nat.zero_le _) fun k hk1=>Sq<|Rg<|Lv Cm<|Nl<|Ps<|Sq ?_
   refine CW.cond rfl (fun h68=>?_) (fun h68=>?_)
   ·replace h68:=bT h68
    refine Sk<|Ps<|Sq<|Bk<|Sq<|Rg<|Lv Mv<|Lv Av<|Nl<|Ps<|Dr ([[(b8,.cells (chC y).toArray 473 (0,0))],[(x.a,.cells (arCC x (chN a y) (a.ver+1) (a.ef.length) eo).toArray 166 (0,0))]])<|Rv 0 rfl Mv<|Rv 1 rfl Nz<|Rv 2 rfl (Fa 3 155)<|Rv 3 rfl Ld<|Rv 4 rfl Mv<|Rv 5 rfl (Fa 9 3)<|Rv 6 rfl (Ld (v:= .int .i64 y.line))<|Rv 7 rfl Mv<|Rv 8 rfl Ar<|Re 9 rfl (CM (kS x.cb x.wb (kNotes a.ck t y.line k)) fun w hw hs0=>knote_g x.cb x.wb (kNotes a.ck t y.line k) th (kNotes_ok hck t y.line k) t (y.line+(k:Nat)) w hs0) fun _ _=>?_
    rw[show kNote (kNotes a.ck t y.line k) t (y.line+(k:Nat))=kNotes a.ck t y.line (k+1) from rfl]
    refine Rd<|Bn<|Ps<|Rg<|Lv Ar<|Lv Mv<|Nl ?_
    exact roundA (k+1) (by omega) (by omega)
   ·replace h68:=bF h68
    obtain rfl:k=spanF (chB a y e0).cls:=by omega
    refine Xt<|Te<|Te<|Bh<|Ps<|Sq<|Rg<|Lv (Fa 5 9)<|Lv (Ld (v:=str (chB a y e0).key))<|Lv Mv<|Lv Mv<|Lv (Fa 9 3)<|Lv (Ld (v:= .int .i64 y.line))<|Lv (Fa 0 3)<|Lv (Ld (v:= .int .i64 (chB a y e0).cls))<|Lv (Bd (lkC (chL a y e0)))<|Le AA fun b17 _=>LeN (StW (cs:=lkC (chL a y e0))) fun _ _=>Nl<|Ps<|Sq<|Rg<|Lv (Fa 5 9)<|Lv (Ld (v:=str (chB a y e0).key))<|Lv (Fa 6 9)<|Lv (Ld (v:=str (chB a y e0).val))<|Lv Mv<|Lv Mv<|Lv Mv<|Lv Mv<|Lv Cv<|Lv (Bd (efC (⟨0,(chB a y e0).key,(chB a y e0).val,chId a y,a.ver+1,e0,IntKind.i64.wrap (chG a grp)⟩:Eft)))<|Le AA fun b18 _=>LeN (StW (cs:=efC (⟨0,(chB a y e0).key,(chB a y e0).val,chId a y,a.ver+1,e0,IntKind.i64.wrap (chG a grp)⟩:Eft))) fun _ _=>Nl<|Ps<|Sq<|Rg<|Lv Av<|Nl<|Ps<|Sq ?_
    refine CW.join (fun z:Tbl×List LvO×Rng×V.OwnO=>z.1=chT a y e0∧z.2.1.map Prod.fst=chD a y e0∧(z.2.1.length=4∧∀p∈z.2.1,lvOk p)∧rgQ z.2.2.1=chQ a y e0∧rgO z.2.2.1 z.2.2.2∧z.2.2.1.R.length≤max rg.R.length 1801) (fun z=>[(0,.pointer (some ⟨x.a,0,none⟩)),(2,.int .u64 e0),(8,.pointer (some ⟨b8,0,none⟩)),(11,.int .u64 (a.ver+1)),(18,.pointer (some ⟨b18,0,none⟩)),(19,.int .i64 (chX y))]) (fun z=>([(b8,.cells (chC y).toArray 473 (0,0))]::[(b13,.cells (blC (chB a y e0)).toArray 308 (0,0))]::[(b18,.cells (efC (chE a y e0 grp)).toArray 298 (0,0))]::[(x.a,.cells (arCC x (chN a y) (a.ver+1) (a.ef.length) eo).toArray 166 (0,0))]::[(x.dv,.cells [.pointer (some ⟨xd.db,0,none⟩),.int .u32 dn,.int .i32 m1,.int .u32 m2].toArray 178 (0,0))]::(plS x.pb x.sb a.L++(rdS x.rb x.hb a.rd++(kS x.cb x.wb (kNotes a.ck t y.line (spanF (chB a y e0).cls))++(bgS x.lb (a.bg) bo++(tbS x.tb x.ms (z.1)++(odS x.ob z.2.1++(rgS 277 x.fb z.2.2.1 z.2.2.2++([ownG 298 ((a.ef).flatMap efC) eo]++vS xd ((chDev e0 a v y)))))))))))) ?_ ?_
    ·refine Sq<|Rg<|Lv (Fa 0 3)<|Lv (Ld (v:= .int .i64 y.kind))<|Nl<|Ps<|Bk<|Sq<|Rg<|Lv Cm<|Lv Av<|Nl<|Ps ?_
     refine CW.cond rfl (fun h102=>?_) (fun h102=>?_)
     ·replace h102:=bT h102
      have h102:y.kind=2:=h102
      refine Sq<|Rg<|Lv (Fa 0 3)<|LeN StS fun _ _=>Nl<|Ps<|Sq<|Dr ([[(b17,.cells (lkC (chL a y e0)).toArray 94 (0,0))],[(x.a,.cells (arCC x (chN a y) (a.ver+1) (a.ef.length) eo).toArray 166 (0,0))]])<|Rv 0 rfl Mv<|Rv 1 rfl Nz<|Rv 2 rfl (Fa 5 157)<|Rv 3 rfl Ld<|Rv 4 rfl (Lw (l:=lkC (chL a y e0)))<|Re 5 rfl (CM (tbS x.tb x.ms a.Tz) fun w hw hs0=>tset_c x.tb x.ms a.Tz hA.tb (chL a y e0) (by show(laidF _ _ _ _).key.length≤_;omega) w hs0) fun _ _=>Rd<|Ps<|Dr ([[(b17,.cells (lkC (chL a y e0)).toArray 94 (0,0))],[(x.a,.cells (arCC x (chN a y) (a.ver+1) (a.ef.length) eo).toArray 166 (0,0))]])<|Rv 0 rfl Mv<|Rv 1 rfl Nz<|Rv 2 rfl (Fa 6 158)<|Rv 3 rfl Ld<|Rv 4 rfl (Lw (l:=lkC (chL a y e0)))<|Re 5 rfl (CM (odS x.ob Lz) fun w hw hs0=>oset_c x.ob Lz (chL a y e0) hOd (by show(laidF _ _ _ _).key.length≤_;omega) w hs0) fun Lv2 hLv=>Rd<|Bn ?_
      have eE:(⟨1,(chB a y e0).key,(chB a y e0).val,chId a y,a.ver+1,e0,IntKind.i64.wrap (chG a grp)⟩:Eft)=chE a y e0 grp:=by unfold chE;simp_all
      have eX:chX y= -1:=by unfold chX;simp_all
      rw[← eE]
      refine PQ.joinedC ((tSet a.Tz (chL a y e0),Lv2,rg,ro)) (⟨(by unfold chT;simp_all),(by unfold chD;simp_all),hLv.2,(by rw[hQ];unfold chQ;rw[if_neg (by omega),if_neg (by omega)]),hA.rg,(by show rg.R.length≤max rg.R.length 1801;omega)⟩) (by rw[eX];exact⟨rfl,rfl,rfl,rfl,rfl,rfl,trivial⟩) (by repeat(first|exact .nil|apply Pick.cons|exact .here|apply Ext.there))
     ·replace h102:=bF h102
      have h102:¬y.kind=2:=h102
      refine Sq<|Rg<|Lv Cm<|Lv Av<|Nl<|Ps ?_
      refine CW.cond rfl (fun h117=>?_) (fun h117=>?_)
      ·replace h117:=bT h117
       have h117:y.kind=3:=h117
       refine Sq<|Dr ([[(b8,.cells (chC y).toArray 473 (0,0))]])<|Rv 0 rfl (Fa 1 9)<|Rv 1 rfl (Ld (v:=str y.key))<|Rv 2 rfl (Fa 9 3)<|Rv 3 rfl (Ld (v:= .int .i64 y.line))<|Rv 4 rfl (Fa 0 3)<|ReN 5 rfl StS fun _ _=>Rv 6 rfl (Fa 1 9)<|ReN 7 rfl StS fun _ _=>Rv 8 rfl Av<|Rd<|Ps<|Sq<|Dr ([[(b8,.cells (chC y).toArray 473 (0,0))],[(x.a,.cells (arCC x (chN a y) (a.ver+1) (a.ef.length) eo).toArray 166 (0,0))]])<|Rv 0 rfl Mv<|Rv 1 rfl Nz<|Rv 2 rfl (Fa 5 157)<|Rv 3 rfl Ld<|Rv 4 rfl (Fa 1 9)<|Rv 5 rfl (Ld (v:=str y.key))<|Re 6 rfl (CM (tbS x.tb x.ms a.Tz) fun w hw hs0=>tdrop_g x.tb x.ms a.Tz hA.tb y.key (by omega) w hs0) fun _ _=>Rd<|Ps<|Dr ([[(b8,.cells (chC y).toArray 473 (0,0))],[(x.a,.cells (arCC x (chN a y) (a.ver+1) (a.ef.length) eo).toArray 166 (0,0))]])<|Rv 0 rfl Mv<|Rv 1 rfl Nz<|Rv 2 rfl (Fa 6 158)<|Rv 3 rfl Ld<|Rv 4 rfl (Fa 1 9)<|Rv 5 rfl (Ld (v:=str y.key))<|Re 6 rfl (CM (odS x.ob Lz) fun w hw hs0=>odrop_g x.ob Lz y.key hOd (by omega) w hs0) fun Lv2 hLv=>Rd<|Bn ?_
       have eE:(⟨2,y.key,(chB a y e0).val,chId a y,a.ver+1,e0,IntKind.i64.wrap (chG a grp)⟩:Eft)=chE a y e0 grp:=by unfold chE;simp_all
       have eX:chX y=y.line:=by unfold chX;simp_all
       rw[← eE]
       refine PQ.joinedC ((tDrop a.Tz y.key,Lv2,rg,ro)) (⟨(by unfold chT;simp_all),(by unfold chD;simp_all),hLv.2,(by rw[hQ];unfold chQ;rw[if_neg (by omega),if_neg (by omega)]),hA.rg,(by show rg.R.length≤max rg.R.length 1801;omega)⟩) (by rw[eX];exact⟨rfl,rfl,rfl,rfl,rfl,rfl,trivial⟩) (by repeat(first|exact .nil|apply Pick.cons|exact .here|apply Ext.there))
      ·replace h117:=bF h117
       have h117:¬y.kind=3:=h117
       refine Sq<|Rg<|Lv Cm<|Lv Av<|Nl<|Ps ?_
       refine CW.cond rfl (fun h139=>?_) (fun h139=>?_)
       ·replace h139:=bT h139
        have h139:y.kind=4:=h139
        refine Sq<|Rg<|Lv (Fa 0 3)<|LeN StS fun _ _=>Nl<|Ps<|Dr ([[(b17,.cells (lkC (chL a y e0)).toArray 94 (0,0))],[(x.a,.cells (arCC x (chN a y) (a.ver+1) (a.ef.length) eo).toArray 166 (0,0))]])<|Rv 0 rfl Mv<|Rv 1 rfl Nz<|Rv 2 rfl (Fa 7 159)<|Rv 3 rfl Ld<|Rv 4 rfl (Lw (l:=lkC (chL a y e0)))<|Re 5 rfl (CM (rgS 277 x.fb rg ro) fun w hw hs0=>lpush_c x.fb rg ro (chL a y e0) hA.rg (by omega) w hs0) fun ro2 hro2=>Rd<|Bn ?_
        have eE:(⟨3,(chB a y e0).key,(chB a y e0).val,chId a y,a.ver+1,e0,IntKind.i64.wrap (chG a grp)⟩:Eft)=chE a y e0 grp:=by unfold chE;simp_all
        have eX:chX y= -1:=by unfold chX;simp_all
        rw[← eE]
        refine PQ.joinedC ((a.Tz,Lz,rg.push (chL a y e0),ro2)) (⟨(by unfold chT;simp_all),(by unfold chD;simp_all),hA.od,(by rw[Rng.push_Q hA.rg.1,hQ];unfold chQ;rw[if_pos h139]),hro2,(push_len hA.rg.1 hR (by rw[hQ];omega))⟩) (by rw[eX];exact⟨rfl,rfl,rfl,rfl,rfl,rfl,trivial⟩) (by repeat(first|exact .nil|apply Pick.cons|exact .here|apply Ext.there))
       ·replace h139:=bF h139
        have h139:¬y.kind=4:=h139
        refine Sq<|Rg<|Lv Cm<|Lv Av<|Nl<|Ps ?_
        refine CW.cond rfl (fun h148=>?_) (fun h148=>?_)
        ·replace h148:=bT h148
         have h148:y.kind=5:=h148
         refine Sq<|Dr ([[(b8,.cells (chC y).toArray 473 (0,0))]])<|Rv 0 rfl (Fa 9 3)<|Rv 1 rfl (Ld (v:= .int .i64 y.line))<|Rv 2 rfl (Fa 0 3)<|ReN 3 rfl StS fun _ _=>Rv 4 rfl Av<|Rd<|Ps<|Rg<|Lv Mv<|Lv Nz<|Lv (Fa 7 159)<|Lv Ld<|Le (CM (rgS 277 x.fb rg ro) fun w hw hs0=>lpop_c x.fb rg ro hA.rg w hs0) fun ro2 hro2=>Nl<|Bn ?_
         have eE:(⟨4,(chB a y e0).key,(chB a y e0).val,chId a y,a.ver+1,e0,IntKind.i64.wrap (chG a grp)⟩:Eft)=chE a y e0 grp:=by unfold chE;simp_all
         have eX:chX y=y.line:=by unfold chX;simp_all
         rw[← eE]
         refine PQ.joinedC ((a.Tz,Lz,rg.pop,ro2)) (⟨(by unfold chT;simp_all),(by unfold chD;simp_all),hA.od,(by rw[Rng.pop_Q hA.rg.1,hQ];unfold chQ;rw[if_neg (by omega),if_pos h148]),hro2,(pop_len rg)⟩) (by rw[eX];exact⟨rfl,rfl,rfl,rfl,rfl,rfl,trivial⟩) (by repeat(first|exact .nil|apply Pick.cons|exact .here|apply Ext.there))
        ·replace h148:=bF h148
         have h148:¬y.kind=5:=h148
         refine Sk<|Bn ?_
         have eE:(⟨0,(chB a y e0).key,(chB a y e0).val,chId a y,a.ver+1,e0,IntKind.i64.wrap (chG a grp)⟩:Eft)=chE a y e0 grp:=by unfold chE;simp_all
         have eX:chX y= -1:=by unfold chX;simp_all
         rw[← eE]
         refine PQ.joinedC ((a.Tz,Lz,rg,ro)) (⟨(by unfold chT;simp_all),(by unfold chD;simp_all),hA.od,(by rw[hQ];unfold chQ;rw[if_neg (by omega),if_neg (by omega)]),hA.rg,(by show rg.R.length≤max rg.R.length 1801;omega)⟩) (by rw[eX];exact⟨rfl,rfl,rfl,rfl,rfl,rfl,trivial⟩) (by repeat(first|exact .nil|apply Pick.cons|exact .here|apply Ext.there))
    ·rintro z ⟨hz1,hz2,hz3,hz4,hz5,hz6⟩
     refine Ps<|Sq ?_
     refine CW.join (fun o3:V.OwnO=>ownOk 5 (if chOut y=true then bPut a.bg (chP a y e0) else a.bg).length ((if chOut y=true then bPut a.bg (chP a y e0) else a.bg).flatMap enC) o3) (fun _=>[(0,.pointer (some ⟨x.a,0,none⟩)),(11,.int .u64 (a.ver+1)),(18,.pointer (some ⟨b18,0,none⟩))]) (fun o3=>([(b18,.cells (efC (chE a y e0 grp)).toArray 298 (0,0))]::[(x.a,.cells (arCC x (chN a y) (a.ver+1) (a.ef.length) eo).toArray 166 (0,0))]::[(x.dv,.cells [.pointer (some ⟨xd.db,0,none⟩),.int .u32 dn,.int .i32 m1,.int .u32 m2].toArray 178 (0,0))]::(plS x.pb x.sb a.L++(rdS x.rb x.hb a.rd++(kS x.cb x.wb (kNotes a.ck t y.line (spanF (chB a y e0).cls))++(bgS x.lb (if chOut y=true then bPut a.bg (chP a y e0) else a.bg) o3++(tbS x.tb x.ms (z.1)++(odS x.ob z.2.1++(rgS 277 x.fb z.2.2.1 z.2.2.2++([ownG 298 ((a.ef).flatMap efC) eo]++vS xd ((chDev e0 a v y)))))))))))) ?_ ?_
     ·refine Sq ?_
      refine CW.regJoin (fun _:Unit=>True) (fun _=>[(0,.pointer (some ⟨x.a,0,none⟩)),(2,.int .u64 e0),(8,.pointer (some ⟨b8,0,none⟩)),(11,.int .u64 (a.ver+1)),(18,.pointer (some ⟨b18,0,none⟩)),(19,.int .i64 (chX y)),(164,.bool (chOut y))]) (fun _=>([(b8,.cells (chC y).toArray 473 (0,0))]::[(b13,.cells (blC (chB a y e0)).toArray 308 (0,0))]::[(b18,.cells (efC (chE a y e0 grp)).toArray 298 (0,0))]::[(x.a,.cells (arCC x (chN a y) (a.ver+1) (a.ef.length) eo).toArray 166 (0,0))]::[(x.dv,.cells [.pointer (some ⟨xd.db,0,none⟩),.int .u32 dn,.int .i32 m1,.int .u32 m2].toArray 178 (0,0))]::(plS x.pb x.sb a.L++(rdS x.rb x.hb a.rd++(kS x.cb x.wb (kNotes a.ck t y.line (spanF (chB a y e0).cls))++(bgS x.lb (a.bg) bo++(tbS x.tb x.ms (z.1)++(odS x.ob z.2.1++(rgS 277 x.fb z.2.2.1 z.2.2.2++([ownG 298 ((a.ef).flatMap efC) eo]++vS xd ((chDev e0 a v y)))))))))))) ?_ ?_
      ·refine Rg<|Lv (Fa 3 4)<|Lv (Ld (v:= .bool y.had))<|Lv Mv ?_
       refine LW.split (d:=160) rfl (fun h160=>?_) (fun h160=>?_)
       ·replace h160:=bT h160
        refine Lv (Fa 0 3)<|Lv (Ld (v:= .int .i64 y.kind))<|Lv Cm<|Lv Pt<|Nl ?_
        refine PQ.joined (()) (trivial) (by exact⟨rfl,rfl,rfl,rfl,rfl,rfl,congrArg (fun b=>some (Value.bool b)) (by unfold chOut;rw[h160];rfl),trivial⟩) (by repeat(first|exact .nil|apply Pick.cons|exact .here|apply Ext.there))
       ·replace h160:=bF h160
        refine Lp<|Lp<|Lp<|Lv Pf<|Nl ?_
        refine PQ.joined (()) (trivial) (by exact⟨rfl,rfl,rfl,rfl,rfl,rfl,congrArg (fun b=>some (Value.bool b)) (by unfold chOut;rw[h160];rfl),trivial⟩) (by repeat(first|exact .nil|apply Pick.cons|exact .here|apply Ext.there))
      ·intro _ _
       refine Ps ?_
       refine CW.cond rfl (fun h164=>?_) (fun h164=>?_)
       ·replace h164:=bT h164
        have h164:chOut y=true:=h164
        refine Dr (([[(b8,.cells (chC y).toArray 473 (0,0))],[(x.a,.cells (arCC x (chN a y) (a.ver+1) (a.ef.length) eo).toArray 166 (0,0))]]++rdS x.rb x.hb a.rd))<|Rv 0 rfl Mv<|Rv 1 rfl Nz<|Rv 2 rfl (Fa 4 156)<|Rv 3 rfl Ld<|Rv 4 rfl (Fa 4 94)<|Rv 5 rfl (Fa 3 3)<|Rv 6 rfl (Ld (v:= .int .i64 y.old.line))<|Rv 7 rfl (Fa 4 94)<|Rv 8 rfl (Fa 4 3)<|Rv 9 rfl (Ld (v:= .int .i64 y.old.cls))<|Rv 10 rfl Mv<|Rv 11 rfl Nz<|Rv 12 rfl (Fa 2 154)<|Rv 13 rfl Ld<|Rv 15 rfl Mv<|Rv 16 rfl Mv<|Re 14 rfl (CV fun w hw=>rnow_g x.rb x.hb a.rd w (hw.sat.pick (ss:=rdS x.rb x.hb a.rd) (by repeat(first|exact .nil|apply Pick.cons|exact .here|apply Ext.there)))) fun _ _=>Rv 17 rfl (Bd (enC (chP a y e0)))<|Re 18 rfl (CM (bgS x.lb a.bg bo) fun w hw hs0=>bput_g x.lb bo a.bg hA.bg (by omega) (chP a y e0) w hs0) fun o4 ho4=>Rd ?_
        rw[show(if chOut y=true then bPut a.bg (chP a y e0) else a.bg)=bPut a.bg (chP a y e0) from if_pos h164]
        exact joinC (o4) (ho4)
       ·replace h164:=bF h164
        have h164:¬chOut y=true:=by simpa using h164
        refine Sk ?_
        rw[show(if chOut y=true then bPut a.bg (chP a y e0) else a.bg)=a.bg from if_neg h164]
        exact joinC (bo) (hA.bg)
     ·intro o3 ho3
      refine Ps<|Sq<|Dr ([[(b18,.cells (efC (chE a y e0 grp)).toArray 298 (0,0))]])<|Rv 0 rfl Mv<|Rv 1 rfl Mv<|Rv 2 rfl Nz<|Rv 3 rfl (Fa 10 105)<|Rv 5 rfl (Lw (l:=efC (chE a y e0 grp)))<|V.RW.batchY [4,6] 6 190 [(4,188,_)] 4 rfl (by kernel_rfl) rfl rfl rfl rfl rfl (by simp) (by simp) ⟨_,rfl,rfl,rfl,Eff.buildSlice (rfl) [_,_,_,_,_,_,_] Tryz.underlying105 Tryz.sizeOf298 (by exact Tryz.zeroValue298) rfl rfl rfl rfl (by rfl)⟩ ⟨⟨_,rfl,rfl,rfl,Eff.ofVal (Ld (v:=ownV a.ef.length eo))⟩,trivial⟩ (fun _ _=>⟨⟨_,rfl,rfl,rfl,Eff.ofVal (Ld (v:=ownV a.ef.length eo))⟩,trivial⟩) ⟨_,(by repeat(first|exact .nil|apply Pick.cons|exact .here|apply Ext.there))⟩ (fun _ _=>⟨_,(by repeat(first|exact .nil|apply Pick.cons|exact .here|apply Ext.there))⟩) fun b190 _=>Re 7 rfl (Eff.appendAny (efC (chE a y e0 grp)) (sz:=7) (bytes:=72) (z:= .agg #[.int .i64 0,.string ⟨#[]⟩,.string ⟨#[]⟩,.int .u64 0,.int .u64 0,.int .u64 0,.int .i64 0]) (xs:=a.ef.flatMap efC) (m0:=a.ef.length) (o:=eo) (m:=1) (pk:=[ownG 298 (a.ef.flatMap efC) (eo)]) rfl rfl Tryz.underlying105 (by kernel_rfl) rfl (by omega) (by repeat(first|exact .nil|apply Pick.cons|exact .here|apply Ext.there)) (by simp) hA.ef (by rfl) (fun hm0=>⟨b190,0,rfl,fun w hw=>V.range_of_block (o:=0) (cs:=efC (chE a y e0 grp)) (r:=[]) (hw.own _ (show InS (b190,.cells (efC (chE a y e0 grp)).toArray 298 (0,0)) _ from(by repeat(first|exact .here|exact .inner .here|exact .inner (.inner .here)|refine .there ?_))).mem) rfl⟩) (by rfl) (by omega) (by omega)) fun oe hoe=>?_
      rw[show a.ef.flatMap efC++efC (chE a y e0 grp)=(a.ef++[chE a y e0 grp]).flatMap efC by rw[List.flatMap_append];simp,show a.ef.length+1=(a.ef++[chE a y e0 grp]).length by simp] at hoe⊢
      refine Rv 8 rfl Nz<|Rv 9 rfl (Fa 10 105)<|ReN 10 rfl (StS (h1:=V.ownV_one _ _)) fun _ _=>Rd<|Ps<|Sq<|Rg<|Lv Mv<|Lv Av<|Nl<|Ps<|Rt<|Rt1 ?_
      obtain⟨zT,zL,zr,zo⟩:=z
      simp only at hz1 hz2 hz3 hz4 hz5 hz6
      subst hz1
      intro w' hw
      refine⟨⟨dn,m1,m2,a.L,a.rd,ckk x.cb (kNotes a.ck t y.line (spanF (chB a y e0).cls)),if chOut y=true then bPut a.bg (chP a y e0) else a.bg,o3,chT a y e0,zL,zr,zo,chN a y,a.ver+1,(a.ef++[chE a y e0 grp]),oe⟩,⟨⟨hA.pl,hA.sl,hA.rd,kNotes_ok hck t y.line _,ho3,chT_ok hA.tb y e0,hz3,hz5,hoe⟩,⟨rfl,rfl,rfl,rfl,rfl,hz2,hz4,rfl,rfl,rfl⟩,hz6⟩,rfl,?_⟩
      exact hw.pick (by repeat(first|exact .nil|apply Pick.cons|exact .here|apply Ext.there))
def nk (k:List UInt8)(l:Lk):Bool:= !decide (l.key=k)
theorem nk_self {L:List Lk}{k:List UInt8}(h:∀l∈L,l.key≠k):L.filter (nk k)=L:=List.filter_eq_self.2 fun l hl=>by unfold nk;simp[h l hl]
theorem tLinks_split {Tz:Tbl}{i:Nat}{p:LE×Nat}(hp:Tz[i]? =some p)(q:LE×Nat):tLinks Tz=tLinks (Tz.take i)++(p.1.map (·.2)++tLinks (Tz.drop (i+1)))∧tLinks (Tz.set i q)=tLinks (Tz.take i)++(q.1.map (·.2)++tLinks (Tz.drop (i+1))):=by
 obtain⟨hi,hv⟩:=List.getElem?_eq_some_iff.1 hp
 have e1:Tz=Tz.take i++p::Tz.drop (i+1):=by
  have h8:=List.take_append_drop i Tz
  rw[List.drop_eq_getElem_cons hi,hv] at h8
  exact h8.symm
 have e2:Tz.set i q=Tz.take i++q::Tz.drop (i+1):=by
  rw[List.set_eq_take_append_cons_drop,if_pos hi]
 constructor
 ·conv=>lhs;rw[e1]
  unfold tLinks
  rw[List.flatMap_append,List.flatMap_cons]
 ·rw[e2]
  unfold tLinks
  rw[List.flatMap_append,List.flatMap_cons]
theorem tset_gen {Tz:Tbl}(h:tInv Tz){i:Nat}{p:LE×Nat}(hp:Tz[i]? =some p)(q:LE×Nat)(hst:V.Stp (me q.1) q.2)(hbk:∀e∈q.1,bkF e.2.key=i){k:List UInt8}(hk:bkF k=i)(T2:List Lk)(hT:T2=[]∨∃x,T2=[x]∧x.key=k)
 (hq:(q.1.map (·.2)).Perm ((p.1.map (·.2)).filter (nk k)++T2)):tInv (Tz.set i q)∧(tLinks (Tz.set i q)).Perm ((tLinks Tz).filter (nk k)++T2):=by
 obtain⟨e1,e2⟩:=tLinks_split hp q
 have hi:=(List.getElem?_eq_some_iff.1 hp).1
 have hA:∀l∈tLinks (Tz.take i),l.key≠k:=by
  intro l hl hk2
  unfold tLinks at hl
  obtain⟨q2,hq2,hlq⟩:=List.mem_flatMap.1 hl
  obtain⟨e,he,rfl⟩:=List.mem_map.1 hlq
  obtain⟨j,hj⟩:=List.mem_iff_getElem?.1 hq2
  have hji:j<i:=by have:=(List.getElem?_eq_some_iff.1 hj).1;rw[List.length_take] at this;omega
  rw[List.getElem?_take_of_lt hji] at hj
  have h1:=h.bk j q2 hj e he
  rw[hk2,hk] at h1;omega
 have hB:∀l∈tLinks (Tz.drop (i+1)),l.key≠k:=by
  intro l hl hk2
  unfold tLinks at hl
  obtain⟨q2,hq2,hlq⟩:=List.mem_flatMap.1 hl
  obtain⟨e,he,rfl⟩:=List.mem_map.1 hlq
  obtain⟨j,hj⟩:=List.mem_iff_getElem?.1 hq2
  rw[List.getElem?_drop] at hj
  have h1:=h.bk _ q2 hj e he
  rw[hk2,hk] at h1;omega
 have hperm:(tLinks (Tz.set i q)).Perm ((tLinks Tz).filter (nk k)++T2):=by
  rw[e2,e1,List.filter_append,List.filter_append,nk_self hA,nk_self hB,List.append_assoc,List.append_assoc]
  refine List.Perm.append_left _<|(hq.append_right _).trans ?_
  rw[List.append_assoc]
  exact List.Perm.append_left _ List.perm_append_comm
 refine⟨⟨by rw[List.length_set];exact h.len,fun q2 hq2=>?_,fun j q2 hq2 e he=>?_,?_⟩,hperm⟩
 ·rcases List.mem_or_eq_of_mem_set hq2 with h8|h8
  ·exact h.st q2 h8
  ·rw[h8];exact hst
 ·rw[List.getElem?_set] at hq2
  split at hq2
  ·rename_i hij
   have hq3:q=q2:=by simpa[hi] using hq2
   subst hq3
   rw[← hij];exact hbk e he
  ·exact h.bk j q2 hq2 e he
 ·have h9:=hperm.map (·.key)
  rw[h9.nodup_iff,List.map_append,List.nodup_append]
  refine⟨(h.nd.sublist (List.filter_sublist.map _)),?_,fun a ha b hb=>?_⟩
  ·rcases hT with rfl|⟨x,rfl,_⟩<;>simp
  ·obtain⟨l,hl,rfl⟩:=List.mem_map.1 ha
   have hl2:=(List.mem_filter.1 hl).2
   unfold nk at hl2
   rcases hT with rfl|⟨x,rfl,hx⟩
   ·simp at hb
   ·simp at hb;rw[hb,hx];simpa using hl2
theorem le_nd {Tz:Tbl}(h:tInv Tz){i:Nat}{p:LE×Nat}(hp:Tz[i]? =some p):((p.1.map (·.2)).map (·.key)).Nodup:=by
 have h1:=h.nd
 rw[(tLinks_split hp p).1,List.map_append,List.map_append] at h1
 exact(List.nodup_append.1 (List.nodup_append.1 h1).2.1).1
theorem lupd_perm (x:Lk):∀{E:LE},((E.map (·.2)).map (·.key)).Nodup→(lget E x.key).isSome=true→((lupd E x).map (·.2)).Perm ((E.map (·.2)).filter (nk x.key)++[x])
 |[],_,h=>by cases h
 |e::r,hn,h=>by
  rw[List.map_cons,List.map_cons,List.nodup_cons] at hn
  by_cases hk:e.2.key=x.key
  ·have e1:lupd (e::r) x=(e.1,x)::r:=by unfold lupd;rw[if_pos hk]
   have e2:(r.map (·.2)).filter (nk x.key)=r.map (·.2):=nk_self fun l hl hk2=>hn.1 (by rw[hk,← hk2];exact List.mem_map_of_mem hl)
   rw[e1,List.map_cons,List.map_cons,List.filter_cons_of_neg (by unfold nk;simp[hk]),e2]
   exact(List.perm_append_comm (l₁:=[x])).symm.symm
  ·have e1:lupd (e::r) x=e::lupd r x:=by rw[lupd,if_neg hk]
   rw[lget_cons,if_neg hk] at h
   rw[e1,List.map_cons,List.map_cons,List.filter_cons_of_pos (by unfold nk;simp[hk])]
   exact(lupd_perm x hn.2 h).cons _
theorem lupd_bk {E:LE}{x:Lk}{i:Nat}(h:∀e∈E,bkF e.2.key=i)(hx:bkF x.key=i):∀e∈lupd E x,bkF e.2.key=i:=by
 induction E with
 |nil=>exact h
 |cons e r ih=>
  by_cases hk:e.2.key=x.key
  ·have e1:lupd (e::r) x=(e.1,x)::r:=by unfold lupd;rw[if_pos hk]
   rw[e1]
   intro z hz
   rcases List.mem_cons.1 hz with rfl|hz
   ·exact hx
   ·exact h z (by simp[hz])
  ·have e1:lupd (e::r) x=e::lupd r x:=by rw[lupd,if_neg hk]
   rw[e1]
   intro z hz
   rcases List.mem_cons.1 hz with rfl|hz
   ·exact h _ (by simp)
   ·exact ih (fun z hz=>h z (by simp[hz])) z hz
theorem ldrop_eq (k:List UInt8):∀{E:LE},((E.map (·.2)).map (·.key)).Nodup→(ldrop E k).map (·.2)=(E.map (·.2)).filter (nk k)
 |[],_=>rfl
 |e::r,hn=>by
  rw[List.map_cons,List.map_cons,List.nodup_cons] at hn
  by_cases hk:e.2.key=k
  ·have e2:(r.map (·.2)).filter (nk k)=r.map (·.2):=nk_self fun l hl hk2=>hn.1 (by rw[hk,← hk2];exact List.mem_map_of_mem hl)
   rw[ldrop,if_pos hk,List.map_cons,List.filter_cons_of_neg (by unfold nk;simp[hk]),e2]
  ·rw[ldrop,if_neg hk,List.map_cons,List.map_cons,List.filter_cons_of_pos (by unfold nk;simp[hk]),ldrop_eq k hn.2]
theorem ldrop_sub (k:List UInt8):∀(E:LE),∀e∈ldrop E k,e∈E
 |[],e,he=>he
 |d::r,e,he=>by
  rw[ldrop] at he
  split at he
  ·exact List.mem_cons_of_mem _ he
  ·rcases List.mem_cons.1 he with rfl|he
   ·simp
   ·exact List.mem_cons_of_mem _ (ldrop_sub k r e he)
theorem tset_list {Tz:Tbl}(h:tInv Tz)(x:Lk):tInv (tSet Tz x)∧(tLinks (tSet Tz x)).Perm ((tLinks Tz).filter (nk x.key)++[x]):=by
 have hb:=bkF_lt x.key
 obtain⟨p,hp⟩:∃p,Tz[bkF x.key]? =some p:=⟨Tz[bkF x.key]'(by rw[h.len];omega),by simp⟩
 have e:tSet Tz x=Tz.set (bkF x.key) (lput p.1 x p.2,lclk p.1 x.key p.2):=by unfold tSet;rw[hp]
 have hst:V.Stp (me (lput p.1 x p.2)) (lclk p.1 x.key p.2):=by
  rw[← mput_me,← mclk_me]
  exact(h.st p (List.mem_of_getElem? hp)).put _ _
 have hpb:=h.bk _ p hp
 rw[e]
 by_cases hg:(lget p.1 x.key).isSome=true
 ·have e2:lput p.1 x p.2=lupd p.1 x:=by unfold lput;rw[if_pos hg]
  rw[e2] at hst⊢
  exact tset_gen h hp _ hst (lupd_bk hpb rfl) rfl [x] (.inr ⟨x,rfl,rfl⟩) (lupd_perm x (le_nd h hp) hg)
 ·have e2:lput p.1 x p.2=p.1++[(p.2,x)]:=by unfold lput;rw[if_neg hg]
  have hl:lget p.1 x.key=none:=by simpa using hg
  rw[e2] at hst⊢
  refine tset_gen h hp _ hst (fun z hz=>?_) rfl [x] (.inr ⟨x,rfl,rfl⟩) ?_
  ·rcases List.mem_append.1 hz with hz|hz
   ·exact hpb z hz
   ·rw[List.mem_singleton] at hz;rw[hz]
  ·have e3:(p.1.map (·.2)).filter (nk x.key)=p.1.map (·.2):=nk_self fun l hl2=>by
    obtain⟨z,hz,rfl⟩:=List.mem_map.1 hl2
    exact lget_none hl z hz
   rw[e3];simp
theorem tdrop_list {Tz:Tbl}(h:tInv Tz)(k:List UInt8):tInv (tDrop Tz k)∧(tLinks (tDrop Tz k)).Perm ((tLinks Tz).filter (nk k)):=by
 have hb:=bkF_lt k
 obtain⟨p,hp⟩:∃p,Tz[bkF k]? =some p:=⟨Tz[bkF k]'(by rw[h.len];omega),by simp⟩
 have e:tDrop Tz k=Tz.set (bkF k) (ldrop p.1 k,p.2):=by unfold tDrop;rw[hp]
 have hst:V.Stp (me (ldrop p.1 k)) p.2:=by
  rw[← mdel_me]
  exact(h.st p (List.mem_of_getElem? hp)).del _
 rw[e]
 have h8:=tset_gen h hp (ldrop p.1 k,p.2) hst (fun z hz=>h.bk _ p hp z (ldrop_sub k _ z hz)) (k:=k) rfl [] (.inl rfl) (by rw[List.append_nil];show((ldrop p.1 k).map (·.2)).Perm _;rw[ldrop_eq k (le_nd h hp)])
 rw[List.append_nil] at h8
 exact h8
theorem tget_mem {Tz:Tbl}{k:List UInt8}{l:Lk}(hg:tGet Tz k=some l):l∈tLinks Tz∧l.key=k:=by
 unfold tGet at hg
 cases hp:Tz[bkF k]? with
 |none=>rw[hp] at hg;cases hg
 |some p=>
  rw[hp] at hg
  have hg2:lget p.1 k=some l:=hg
  unfold lget at hg2
  obtain⟨z,hz,rfl⟩:=Option.map_eq_some_iff.1 hg2
  have h1:=List.find?_some hz
  refine⟨?_,by simpa using h1⟩
  unfold tLinks
  exact List.mem_flatMap.2 ⟨p,List.mem_of_getElem? hp,List.mem_map.2 ⟨z,List.mem_of_find?_eq_some hz,rfl⟩⟩
theorem key_one {T:List Lk}(h:(T.map (·.key)).Nodup){a b:Lk}(ha:a∈T)(hb:b∈T)(hk:a.key=b.key):a=b:=by
 induction T with
 |nil=>cases ha
 |cons c r ih=>
  rw[List.map_cons,List.nodup_cons] at h
  rcases List.mem_cons.1 ha with rfl|ha2
  ·rcases List.mem_cons.1 hb with rfl|hb2
   ·rfl
   ·exact absurd (List.mem_map.2 ⟨b,hb2,hk.symm⟩) h.1
  ·rcases List.mem_cons.1 hb with rfl|hb2
   ·exact absurd (List.mem_map.2 ⟨a,ha2,hk⟩) h.1
   ·exact ih h.2 ha2 hb2
structure AS.In (a:AS)(th n m f:Nat):Prop where
 ck:a.ck.Ok th
 ph:a.ck.Ph
 rd:a.rd.has.length=th
 pl:plOk a.L
 sl:a.L.length=(slabsF n).toNat
 tb:tInv a.Tz
 D4:a.D.length=4
 t:(tLinks a.Tz).length≤m
 d:∀l∈a.D,l.length≤m
 q:a.q.length≤m
 b:a.bg.length≤m
 e:a.ef.length≤f
 id:0≤a.id∧a.id≤2305843009213693952
 ver:0≤a.ver∧a.ver≤2305843009213693952
theorem AS.In.up {a:AS}{th n m m' f f':Nat}(h:a.In th n m f)(hm:m≤m')(hf:f≤f'):a.In th n m' f':=⟨h.ck,h.ph,h.rd,h.pl,h.sl,h.tb,h.D4,Nat.le_trans h.t hm,fun l hl=>Nat.le_trans (h.d l hl) hm,Nat.le_trans h.q hm,Nat.le_trans h.b hm,Nat.le_trans h.e hf,h.id,h.ver⟩
theorem AS.In.sz {a:AS}{th n m f:Nat}(h:a.In th n m f)(hm:m≤900)(hf:f≤90000):a.Sz:=⟨h.tb.st,Nat.le_trans h.t hm,fun l hl=>Nat.le_trans (h.d l hl) hm,Nat.le_trans h.q hm,Nat.le_trans h.b hm,Nat.le_trans h.e hf,⟨h.id.1,by have:=h.id.2;omega⟩,⟨h.ver.1,by have:=h.ver.2;omega⟩⟩
theorem setTo_len (D:List (List Lk))(x:Lk)(k:Nat):(setTo D x k).length=D.length:=by unfold setTo;simp
theorem dropTo_len (D:List (List Lk))(k:List UInt8)(i:Nat):(dropTo D k i).length=D.length:=by unfold dropTo;simp
theorem setTo_le {D:List (List Lk)}{x:Lk}{k m:Nat}(h:∀l∈D,l.length≤m):∀l∈setTo D x k,l.length≤m+1:=by
 intro l hl
 obtain⟨j,hj⟩:=List.mem_iff_getElem?.1 hl
 unfold setTo at hj
 rw[List.getElem?_mapIdx,Option.map_eq_some_iff] at hj
 obtain⟨l0,h0,h1⟩:=hj
 have h2:=h l0 (List.mem_of_getElem? h0)
 split at h1
 ·rw[← h1];have:=setL_len l0 x;omega
 ·rw[← h1];omega
theorem dropTo_le {D:List (List Lk)}{x:List UInt8}{k m:Nat}(h:∀l∈D,l.length≤m):∀l∈dropTo D x k,l.length≤m:=by
 intro l hl
 obtain⟨j,hj⟩:=List.mem_iff_getElem?.1 hl
 unfold dropTo at hj
 rw[List.getElem?_mapIdx,Option.map_eq_some_iff] at hj
 obtain⟨l0,h0,h1⟩:=hj
 have h2:=h l0 (List.mem_of_getElem? h0)
 split at h1
 ·rw[← h1];unfold dropL;split
  ·have:=List.length_eraseIdx_le l0 (posF l0 x);omega
  ·omega
 ·rw[← h1];omega
theorem kNote_ph {c:Ck}(h:c.Ph)(t line:Int):(kNote c t line).Ph:=by unfold kNote;split<;>exact h
theorem kNotes_ph {c:Ck}(h:c.Ph)(t line:Int):∀k,(kNotes c t line k).Ph
 |0=>h
 |k+1=>kNote_ph (kNotes_ph h t line k) _ _
theorem chT_inv {a:AS}(h:tInv a.Tz)(y:Chg)(e:Int):tInv (chT a y e)∧(tLinks (chT a y e)).length≤(tLinks a.Tz).length+1:=by
 unfold chT
 split
 ·obtain⟨h1,h2⟩:=tset_list h (chL a y e)
  refine⟨h1,?_⟩
  rw[h2.length_eq,List.length_append]
  have:=List.length_filter_le (nk (chL a y e).key) (tLinks a.Tz)
  simp only[List.length_singleton];omega
 ·split
  ·obtain⟨h1,h2⟩:=tdrop_list h y.key
   refine⟨h1,?_⟩
   rw[h2.length_eq]
   have:=List.length_filter_le (nk y.key) (tLinks a.Tz)
   omega
  ·exact⟨h,Nat.le_succ _⟩
theorem chA_in {a:AS}{th n m f:Nat}(h:a.In th n m f)(t e grp:Int)(y:Chg)(hv:a.ver+1≤2305843009213693952)(hi:chN a y≤2305843009213693952):(chA t e a y grp).In th n (m+1) (f+1):=by
 have hT:=chT_inv h.tb y e
 refine⟨kNotes_ok h.ck _ _ _,kNotes_ph h.ph _ _ _,h.rd,h.pl,h.sl,hT.1,?_,Nat.le_trans hT.2 (Nat.succ_le_succ h.t),?_,?_,?_,?_,⟨?_,hi⟩,⟨?_,hv⟩⟩
 ·show(chD a y e).length=4
  unfold chD oset odrop;split
  ·rw[setTo_len];exact h.D4
  ·split
   ·rw[dropTo_len];exact h.D4
   ·exact h.D4
 ·show ∀l∈chD a y e,_
  unfold chD oset odrop;split
  ·exact setTo_le h.d
  ·split
   ·exact fun l hl=>Nat.le_succ_of_le (dropTo_le h.d l hl)
   ·exact fun l hl=>Nat.le_succ_of_le (h.d l hl)
 ·show(chQ a y e).length≤_
  have:=h.q
  unfold chQ;split
  ·simp;exact this
  ·split
   ·rw[List.length_tail];omega
   ·omega
 ·show(if chOut y=true then bPut a.bg (chP a y e) else a.bg).length≤_
  have:=h.b
  split
  ·unfold bPut;split
   ·simp;exact this
   ·omega
  ·omega
 ·show(a.ef++[chE a y e grp]).length≤_
  have:=h.e
  simp;omega
 ·show 0≤chN a y
  have:=h.id
  unfold chN;split<;>omega
 ·show 0≤a.ver+1
  have:=h.ver;omega
instance:Siz Tryz.prog 97 (kOf Tryz.sizeOf97):=⟨Tryz.sizeOf97⟩
instance:AgF Tryz.prog 97:=⟨Tryz.isAgg97⟩
instance:Cal Tryz.prog 96:=⟨Tryz.call96⟩
instance:Cal Tryz.prog 404:=⟨Tryz.call404⟩
instance:Cal Tryz.prog 405:=⟨Tryz.call405⟩
instance:Cal Tryz.prog 406:=⟨Tryz.call406⟩
instance:Cal Tryz.prog 407:=⟨Tryz.call407⟩
instance:Cal Tryz.prog 408:=⟨Tryz.call408⟩
instance:Cal Tryz.prog 410:=⟨Tryz.call410⟩
def pubE (a:AS)(t e:Int)(l:List Chg):Int:=
 if ¬inR a.ck.owed t∨shapeB l=false then 1 else if a.ck.now≠e then 8 else
 if l.all (fndB a.Tz a.q)=false then 8 else if heldB a.L (tLinks a.Tz) a.q a.bg l=false then 1 else fitsF2 a.id a.ver e l
def pubGo (t e:Int):List Chg→AS×Dev×Int→AS×Dev×Int
 |[],z=>z
 |y::r,z=>pubGo t e r (if needB y=true then(chA t e z.1 y z.2.2,chDev e z.1 z.2.1 y,if z.2.2=0 then z.1.ver+1 else z.2.2) else z)
def pubZ (t e:Int)(a:AS)(v:Dev)(l:List Chg):AS×Dev×Int:=pubGo t e l (a,v,0)
def pubA (t e:Int)(a:AS)(v:Dev)(l:List Chg):AS×Dev:=if pubE a t e l=0 then((pubZ t e a v l).1,(pubZ t e a v l).2.1) else(a,v)
def hitsF (l:List Chg):List Bool:=l.map chOut
theorem pubGo_app (t e:Int):∀(A B:List Chg) (z:AS×Dev×Int),pubGo t e (A++B) z=pubGo t e B (pubGo t e A z)
 |[],_,_=>rfl
 |_::A,B,_=>pubGo_app t e A B _
theorem pubZ_up {t e:Int}{a:AS}{v:Dev}{l:List Chg}{k:Nat}{y:Chg}(h:l[k]? =some y):pubZ t e a v (l.take (k+1))=(if needB y=true then(chA t e (pubZ t e a v (l.take k)).1 y (pubZ t e a v (l.take k)).2.2,chDev e (pubZ t e a v (l.take k)).1 (pubZ t e a v (l.take k)).2.1 y,if(pubZ t e a v (l.take k)).2.2=0 then(pubZ t e a v (l.take k)).1.ver+1 else(pubZ t e a v (l.take k)).2.2) else pubZ t e a v (l.take k)):=by
 unfold pubZ
 rw[List.take_add_one,h,Option.toList_some,pubGo_app]
 rfl
def boC (b:Bool):List Value:=[.bool b]
theorem boC_len (b:Bool):(boC b).length=1:=rfl
theorem may_ids {y:Chg}{id ver e:Int}(h:mayF (laidF y 1 1 e)=true)(hi:1≤id∧id≤2305843009213693952)(hv:1≤ver∧ver≤2305843009213693952):mayF (laidF y id ver e)=true:=by
 have h2:∀b:Blk,b.kind≠0→mayF b=true→mayF {b with id:=id,ver:=ver}=true:=by
  intro b hb hm
  unfold mayF at hm⊢
  simp only at hm⊢
  simp_all
  first|done|(unfold numF;simp;omega)
 have e1:laidF y id ver e={laidF y 1 1 e with id:=id,ver:=ver}:=by unfold laidF;split;rfl;split<;>rfl
 rw[e1]
 refine h2 _ ?_ h
 unfold laidF
 split
 ·simp
 ·split<;>simp
theorem filt_mono {α:Type}{g:α→Bool}{l:List α}{i:Nat}:((l.take i).filter g).length≤(l.filter g).length:=(List.take_sublist i l).filter g|>.length_le
theorem pubE_zero {a:AS}{t e:Int}{l:List Chg}(h:pubE a t e l=0):inR a.ck.owed t∧shapeB l=true∧a.ck.now=e∧l.all (fndB a.Tz a.q)=true∧heldB a.L (tLinks a.Tz) a.q a.bg l=true∧fitsF2 a.id a.ver e l=0:=by
 unfold pubE at h
 by_cases h1:¬inR a.ck.owed t∨shapeB l=false
 ·rw[if_pos h1] at h;exact absurd h (by decide)
 rw[if_neg h1] at h
 by_cases h2:a.ck.now≠e
 ·rw[if_pos h2] at h;exact absurd h (by decide)
 rw[if_neg h2] at h
 by_cases h3:l.all (fndB a.Tz a.q)=false
 ·rw[if_pos h3] at h;exact absurd h (by decide)
 rw[if_neg h3] at h
 by_cases h4:heldB a.L (tLinks a.Tz) a.q a.bg l=false
 ·rw[if_pos h4] at h;exact absurd h (by decide)
 rw[if_neg h4] at h
 simp only[not_or,Classical.not_not,Bool.not_eq_false] at h1 h2 h3 h4
 exact⟨h1.1,h1.2,h2,h3,h4,h⟩
theorem fits_zero {id ver e:Int}{l:List Chg}(h:fitsF2 id ver e l=0):(∀y∈l,ftOne e y=true)∧(0<cntV l→ver+cntV l≤2305843009213693952∧id+cntI l≤2305843009213693952):=by
 unfold fitsF2 at h
 by_cases h1:l.all (ftOne e)=true
 ·rw[if_pos h1] at h
  refine⟨List.all_eq_true.1 h1,fun h0=>?_⟩
  by_cases h2:2305843009213693952<ver+cntV l∧0<cntV l∨2305843009213693952<id+cntI l∧0<cntV l
  ·rw[if_pos h2] at h;exact absurd h (by decide)
  ·constructor<;>omega
 ·rw[if_neg h1] at h;exact absurd h (by decide)
theorem allPre_at {α:Type}{f:List α→α→Bool}:∀(r p:List α),allPre f p r=true→∀y∈r,∃p',f p' y=true
 |[],_,_,y,hy=>by cases hy
 |x::r,p,h,y,hy=>by
  rw[allPre,Bool.and_eq_true] at h
  rcases List.mem_cons.1 hy with rfl|hy
  ·exact⟨p,h.1⟩
  ·exact allPre_at r _ h.2 y hy
theorem of_rng {L:List Slb}{line:Int}(h:(ofF L line).2=true):2≤line∧line<258:=by
 unfold ofF at h
 cases hat:atF L line with
 |none=>rw[hat] at h;cases h
 |some z=>
  have h1:¬slabOfF line<0:=by
   intro h8
   unfold atF at hat
   rw[if_pos (.inl h8)] at hat;cases hat
  unfold slabOfF at h1
  split at h1<;>omega
def AS.Ids (a:AS):Prop:=∀k∈tLinks a.Tz++a.q,1≤k.id∧k.id≤2305843009213693952
theorem pubZ_num {t e:Int}{a:AS}{v:Dev}{l:List Chg}:∀k,k≤l.length→(pubZ t e a v (l.take k)).1.ver=a.ver+cntV (l.take k)∧(pubZ t e a v (l.take k)).1.id=a.id+cntI (l.take k)
 |0,_=>⟨by simp[pubZ,pubGo,cntV],by simp[pubZ,pubGo,cntI]⟩
 |k+1,hk=>by
  obtain⟨h1,h2⟩:=pubZ_num (t:=t) (e:=e) (a:=a) (v:=v) (l:=l) k (by omega)
  obtain⟨y,hy⟩:∃y,l[k]? =some y:=⟨l[k]'(by omega),by simp⟩
  have hcV:cntV (l.take (k+1))=cntV (l.take k)+_:=filt_take (g:=needB) hy
  have hcI:cntI (l.take (k+1))=cntI (l.take k)+_:=filt_take (g:=fun y=>needB y&&newId y) hy
  rw[pubZ_up hy,hcV,hcI]
  by_cases hn:needB y=true
  ·rw[if_pos hn,if_pos hn]
   refine⟨?_,?_⟩
   ·show(pubZ t e a v (l.take k)).1.ver+1=_
    rw[h1];omega
   ·show chN (pubZ t e a v (l.take k)).1 y=_
    unfold chN
    by_cases hi:newId y=true
    ·rw[if_pos hi,if_pos (by rw[hn,hi];rfl),h2];omega
    ·rw[if_neg hi,if_neg (by rw[hn];simpa using hi),h2];omega
  ·rw[if_neg hn,if_neg hn,if_neg (by simp[hn])]
   exact⟨by omega,by omega⟩
theorem pub_ok {a:AS}{th n m f:Nat}(h:a.In th n m f)(hL:a.Ids){t e:Int}{v:Dev}{l:List Chg}(h0:pubE a t e l=0){k:Nat}{y:Chg}(hy:l[k]? =some y)(hn:needB y=true):
 mayF (chB (pubZ t e a v (l.take k)).1 y e)=true∧(0≤y.line∧y.line≤1000)∧(pubZ t e a v (l.take k)).1.ver+1≤2305843009213693952∧chN (pubZ t e a v (l.take k)).1 y≤2305843009213693952:=by
 obtain⟨_,hsh,hnow,hfd,hhe,hft⟩:=pubE_zero h0
 obtain⟨hf1,hf2⟩:=fits_zero hft
 have hmem:=List.mem_of_getElem? hy
 have hk:=(List.getElem?_eq_some_iff.1 hy).1
 obtain⟨hv,hi⟩:=pubZ_num (t:=t) (e:=e) (a:=a) (v:=v) (l:=l) k (by omega)
 have hcV:cntV (l.take (k+1))=cntV (l.take k)+_:=filt_take (g:=needB) hy
 have hcI:cntI (l.take (k+1))=cntI (l.take k)+_:=filt_take (g:=fun y=>needB y&&newId y) hy
 rw[if_pos hn] at hcV
 have hmV:cntV (l.take (k+1))≤cntV l:=filt_mono
 have hmI:cntI (l.take (k+1))≤cntI l:=filt_mono
 obtain⟨hb1,hb2⟩:=hf2 (by omega)
 have hid:=h.id
 have hver:=h.ver
 have hcN:chN (pubZ t e a v (l.take k)).1 y≤2305843009213693952∧(newId y=true→1≤chN (pubZ t e a v (l.take k)).1 y):=by
  unfold chN
  by_cases hni:newId y=true
  ·rw[if_pos hni]
   rw[if_pos (by rw[hn,hni];rfl)] at hcI
   exact⟨by omega,fun _=>by omega⟩
  ·rw[if_neg hni]
   exact⟨by omega,fun h8=>absurd h8 hni⟩
 have hm1:mayF (laidF y 1 1 e)=true:=by
  have h8:=hf1 y hmem
  unfold ftOne at h8
  rw[hn] at h8
  simp only[Bool.not_true,Bool.false_or,Bool.and_eq_true] at h8
  exact h8.1
 refine⟨may_ids hm1 ?_ ⟨by omega,by omega⟩,?_,by omega,hcN.1⟩
 ·unfold chId
  by_cases hni:newId y=true
  ·rw[if_pos hni]
   have h8:=hcN.2 hni
   have h9:=hcN.1
   unfold chN at h8 h9
   rw[if_pos hni] at h8 h9
   exact⟨h8,h9⟩
  ·rw[if_neg hni]
   have h8:=List.all_eq_true.1 hfd y hmem
   obtain⟨p',hp'⟩:=allPre_at l [] (by unfold shapeB at hsh;rw[Bool.and_eq_true] at hsh;exact hsh.2) y hmem
   unfold shOne kdOk at hp'
   have hhad:y.had=true:=by
    unfold newId at hni;unfold needB at hn
    simp only[Bool.or_eq_true,Bool.and_eq_true,decide_eq_true_eq,Bool.not_eq_true'] at hni hn hp'
    rcases hp'.1 with((h9|h9)|h9)|h9
    ·cases hh:y.had with
     |true=>rfl
     |false=>exact absurd (.inr ⟨h9,hh⟩) hni
    ·rcases hn with h10|h10
     ·exact absurd h9 (by simpa using h10)
     ·exact h10
    ·exact absurd (.inl h9) hni
    ·exact h9.2
   unfold fndB at h8
   by_cases hmp:mapB y=true
   ·rw[if_pos hmp,hhad] at h8
    simp only[Bool.and_eq_true,beq_iff_eq] at h8
    obtain⟨z,hz⟩:=Option.isSome_iff_exists.1 h8.1
    rw[hz] at h8
    simp at h8
    have:=hL z (List.mem_append.2 (.inl (tget_mem hz).1))
    rw[← h8];exact this
   ·rw[if_neg hmp] at h8
    have hk5:y.kind=5:=by
     unfold newId at hni;unfold mapB at hmp
     simp only[Bool.or_eq_true,Bool.and_eq_true,decide_eq_true_eq,Bool.not_eq_true'] at hni hmp hp'
     rcases hp'.1 with((h9|h9)|h9)|h9
     ·exact absurd (.inl h9) hmp
     ·exact absurd (.inr h9) hmp
     ·exact absurd (.inl h9) hni
     ·exact h9.1
    rw[if_pos hk5] at h8
    unfold fndQ at h8
    simp only[Bool.and_eq_true,decide_eq_true_eq] at h8
    obtain⟨z,hz⟩:=Option.isSome_iff_exists.1 h8.1
    rw[hz] at h8
    have:=hL z (List.mem_append.2 (.inr (List.mem_of_head? hz)))
    rw[← h8.2];exact this
 ·obtain⟨p',hp'⟩:=allPre_at l [] hhe y hmem
  unfold hdOne at hp'
  rw[hn] at hp'
  simp only[Bool.not_true,Bool.false_or,Bool.and_eq_true] at hp'
  have:=of_rng hp'.1.1.1
  omega
theorem pubZ_in {a:AS}{th n m f:Nat}(h:a.In th n m f)(hL:a.Ids){t e:Int}{v:Dev}{l:List Chg}(h0:pubE a t e l=0):∀k,k≤l.length→(pubZ t e a v (l.take k)).1.In th n (m+k) (f+k)
 |0,_=>h
 |k+1,hk=>by
  have h1:=pubZ_in h hL (v:=v) h0 k (by omega)
  obtain⟨y,hy⟩:∃y,l[k]? =some y:=⟨l[k]'(by omega),by simp⟩
  rw[pubZ_up hy]
  by_cases hn:needB y=true
  ·rw[if_pos hn]
   obtain⟨_,_,h2,h3⟩:=pub_ok h hL (v:=v) h0 hy hn
   exact chA_in h1 t e _ y h2 h3
  ·rw[if_neg hn]
   exact h1.up (by omega) (by omega)
theorem hp_start2 {sg:V.Sg}{w:World}(h:Sat sg w):Hp ⟨w,V.ids sg⟩ sg w:=V.Hp.start h
theorem kowed2_g (cb wb:Nat)(c:Ck)(th:Nat)(h4:th≤1000)(hk:c.Ok th)(w:World)(hs:Sat (kS cb wb c) w):Calls Tryz.prog 404 [.pointer (some ⟨cb,0,none⟩)].toArray w fun e w'=>∃o:V.OwnO,ownOk 1 c.owed.length (c.owed.flatMap inI) o∧e= .returned (ownV c.owed.length o)∧Hp ⟨w,V.ids (kS cb wb c)⟩ (ownG 3 (c.owed.flatMap inI) o::kS cb wb c) w':=by
 refine(kowed_g cb wb c th h4 hk w hs).mono fun e w' ⟨o,h1,h2,h3⟩=>⟨o,h1,h2,?_⟩
 have h8:=(hp_start2 hs).call (ss:=[]) .nil h3
 exact h8
theorem kowed3_g (cb wb:Nat)(k:Ckk)(c:Ck)(hk2:k=ckk cb c)(th:Nat)(h4:th≤1000)(hk:c.Ok th)(w:World)(hs:Sat (ckS cb wb k) w):Calls Tryz.prog 404 [.pointer (some ⟨cb,0,none⟩)].toArray w fun e w'=>∃o:V.OwnO,ownOk 1 c.owed.length (c.owed.flatMap inI) o∧e= .returned (ownV c.owed.length o)∧Hp ⟨w,V.ids (ckS cb wb k)⟩ (ownG 3 (c.owed.flatMap inI) o::ckS cb wb k) w':=by
 subst hk2
 exact kowed2_g cb wb c th h4 hk w hs
theorem publish_g (x:ArR)(s:ArS)(th n m f:Nat)(a:AS)(xd:DvR)(v:Dev)(hA:ArOk th n x s)(hI:ArIs x s a)(hin:a.In th n m f)(hids:a.Ids)(hm:m≤890)(hf:f≤80000)(hth:1≤th∧th≤4)(hR:s.rg.R.length≤1900)(t e0:Int)(he:0≤e0∧e0≤4611686018427387904)(l:List Chg)(p:Option Addr)(c:Nat)(hl:l.length≤c∧l.length≤3)(hlen:∀y∈l,y.key.length≤3000∧y.val.length≤100000)(w:World)(hs:Sat (arS x s xd.db++vS xd v) w)(h:V.slAt w p 11 chC l)(hd:∀b o,p=some ⟨b,o,none⟩→b∉V.ids (arS x s xd.db++vS xd v)):Calls Tryz.prog 357 [.pointer (some ⟨x.a,0,none⟩),.int .i64 t,.int .u64 e0,.slice p l.length c].toArray w fun e w'=>∃z:ArS×V.OwnO,(ArOk th n x z.1∧ArIs x z.1 (pubA t e0 a v l).1∧z.1.rg.R.length≤max s.rg.R.length 1801∧ownOk 1 (if pubE a t e0 l=0 then(hitsF l).length else 0) ((if pubE a t e0 l=0 then hitsF l else[]).flatMap boC) z.2)∧e= .returned (.tuple #[ownV (if pubE a t e0 l=0 then(hitsF l).length else 0) z.2,.int .i64 (pubE a t e0 l)])∧Hp ⟨w,V.ids ((arS x s xd.db++vS xd v))⟩ ([ownG 4 ((if pubE a t e0 l=0 then hitsF l else[]).flatMap boC) z.2]++(arS x z.1 xd.db++vS xd (pubA t e0 a v l).2)) w':=by
 have hz:=hin.sz (by omega) (by omega)
 have hck:s.ck=ckk x.cb a.ck:=hI.ck
 have hkS:kS x.cb x.wb a.ck=ckS x.cb x.wb s.ck:=by rw[hck]
 have hOw:a.ck.owed.length=th:=hin.ck.1
 have hHe:heldB s.L (tLinks s.Tz) (rgQ s.rg) s.bg l=heldB a.L (tLinks a.Tz) a.q a.bg l:=by rw[hI.L,hI.Tz,hI.q,hI.bg]
 have hFd:∀y,fndB s.Tz (rgQ s.rg) y=fndB a.Tz a.q y:=fun y=>by rw[hI.Tz,hI.q]
 have hFt:fitsF2 s.id s.ver e0 l=fitsF2 a.id a.ver e0 l:=by rw[hI.id,hI.ver]
 have hdA:∀b o,p=some ⟨b,o,none⟩→b∉V.ids (arS x s xd.db):=fun b o hp hin8=>hd b o hp (by unfold V.ids at hin8⊢;rw[List.flatten_append,List.map_append];exact List.mem_append.2 (.inl hin8))
 refine V.calls (arS x s xd.db++vS xd v) Tryz.func357 rfl Tryz.ntmps357 (Nat.le_of_ble_eq_true rfl) hs<|Sq<|Rg<|Lv Av<|Lv Av<|Nl<|Ps<|Sq<|Sq<|Rg<|Lv Mv<|Lv EP<|Lv Mv<|Lv Mv<|Lv Cm<|Lv Pf<|Lv Mv ?_
 refine LW.split (d:=24) rfl (fun h24=>?_) (fun h24=>?_)
 ·replace h24:=bT h24
  refine Lp<|Lp<|Lp<|Lp<|Lp<|Lp<|Lp<|Lp<|Lv Pt<|Lv Mv<|Lp<|Lp<|Lp<|Lv Pt<|Nl<|Ps<|Ct<|Sq<|Rg<|Lv Av<|Lv Av<|Nl<|Ps<|Rt<|Tr<|Rt2 ?_
  have e1:pubE a t e0 l=1:=if_pos (by rcases Classical.em (shapeB l=true) with h9|h9;(left;unfold inR;omega);(right;simpa using h9))
  have e2:pubA t e0 a v l=(a,v):=if_neg (by rw[e1];decide)
  rw[e1,e2,if_neg (by decide),if_neg (by decide)]
  intro w' hw;exact⟨(s,none),⟨hA,hI,Nat.le_max_left _ _,⟨rfl,rfl⟩⟩,rfl,(hw.pick (ss:=(arS x s xd.db++vS xd v)) (by repeat(first|exact .nil|apply Pick.cons|exact .here|apply Ext.there))).perm (.refl _)⟩
 ·replace h24:=bF h24
  refine Lv Mv<|Lv Mv<|Lv Nz<|Lv (Fa 3 155)<|Lv (Ld (v:= .pointer (some ⟨x.cb,0,none⟩)))<|Le (CM (ckS x.cb x.wb s.ck) fun w hw hs0=>kowed3_g x.cb x.wb s.ck a.ck hck th (by omega) hin.ck w hs0) fun oO hoO=>Lv (Val.lenOwn rfl Tryz.underlying109 hoO)<|Lv Cm<|Lv Pf<|Lv Mv ?_
  refine LW.split (d:=34) rfl (fun h34=>?_) (fun h34=>?_)
  ·replace h34:=bT h34
   refine Lp<|Lp<|Lp<|Lv Pt<|Nl<|Ps<|Ct<|Sq<|Rg<|Lv Av<|Lv Av<|Nl<|Ps<|Rt<|Tr<|Rt2 ?_
   have e1:pubE a t e0 l=1:=if_pos (by rcases Classical.em (shapeB l=true) with h9|h9;(left;unfold inR;omega);(right;simpa using h9))
   have e2:pubA t e0 a v l=(a,v):=if_neg (by rw[e1];decide)
   rw[e1,e2,if_neg (by decide),if_neg (by decide)]
   intro w' hw;exact⟨(s,none),⟨hA,hI,Nat.le_max_left _ _,⟨rfl,rfl⟩⟩,rfl,(hw.pick (ss:=(arS x s xd.db++vS xd v)) (by repeat(first|exact .nil|apply Pick.cons|exact .here|apply Ext.there))).perm (.refl _)⟩
  ·replace h34:=bF h34
   refine Lv Mv<|Le (CV fun w hw=>shaped_c l p c ⟨hl.1,by omega⟩ w (hw.slAt h hd)) fun _ _=>Lv Nt<|LW.re 37 (.bool (!shapeB l)) rfl rfl<|Lv Pf<|Nl<|Ps ?_
   refine CW.cond rfl (fun h38=>?_) (fun h38=>?_)
   ·replace h38:=bT h38
    refine Sq<|Rg<|Lv Av<|Lv Av<|Nl<|Ps<|Rt<|Tr<|Rt2 ?_
    have e1:pubE a t e0 l=1:=if_pos (.inr (by simpa using h38))
    have e2:pubA t e0 a v l=(a,v):=if_neg (by rw[e1];decide)
    rw[e1,e2,if_neg (by decide),if_neg (by decide)]
    intro w' hw;exact⟨(s,none),⟨hA,hI,Nat.le_max_left _ _,⟨rfl,rfl⟩⟩,rfl,(hw.pick (ss:=(arS x s xd.db++vS xd v)) (by repeat(first|exact .nil|apply Pick.cons|exact .here|apply Ext.there))).perm (.refl _)⟩
   ·replace h38:=bF h38
    have hsh:shapeB l=true:=by simpa using h38
    have hc1:¬(¬inR a.ck.owed t∨shapeB l=false):=by
     rintro(h9|h9)
     ·apply h9;unfold inR;omega
     ·rw[hsh] at h9;cases h9
    refine Sk<|Ps<|Sq<|Sq<|Rg<|Lv Mv<|Lv Nz<|Lv (Fa 3 155)<|Lv (Ld (v:= .pointer (some ⟨x.cb,0,none⟩)))<|Le (CV fun w hw=>know_g x.cb x.wb a.ck w (by have h8:=hw.sat.pick (ss:=ckS x.cb x.wb s.ck) (by repeat(first|exact .nil|apply Pick.cons|exact .here|apply Ext.there));rw[hck] at h8;exact h8)) fun _ _=>Lv Mv<|Lv Cm<|Nl<|Ps ?_
    refine CW.cond rfl (fun h45=>?_) (fun h45=>?_)
    ·replace h45:=bT h45
     have h45:a.ck.now≠e0:=h45
     refine Sq<|Rg<|Lv Av<|Lv Av<|Nl<|Ps<|Rt<|Tr<|Rt2 ?_
     have e1:pubE a t e0 l=8:=(if_neg hc1).trans (if_pos h45)
     have e2:pubA t e0 a v l=(a,v):=if_neg (by rw[e1];decide)
     rw[e1,e2,if_neg (by decide),if_neg (by decide)]
     intro w' hw;exact⟨(s,none),⟨hA,hI,Nat.le_max_left _ _,⟨rfl,rfl⟩⟩,rfl,(hw.pick (ss:=(arS x s xd.db++vS xd v)) (by repeat(first|exact .nil|apply Pick.cons|exact .here|apply Ext.there))).perm (.refl _)⟩
    ·replace h45:=bF h45
     have hc2:¬a.ck.now≠e0:=fun h9=>h9 h45
     refine Sk<|Ps<|Sq<|Sq<|Rg<|Lv Mv<|Lv Ln<|Lv Mv<|Nl<|Ps<|Bk<|loopA (γ:=Nat) (fun k=>[(0,.pointer (some ⟨x.a,0,none⟩)),(1,.int .i64 t),(2,.int .u64 e0),(3,.slice p l.length c),(46,.slice p l.length c),(47,.int .i64 (l.length:Nat)),(48,.int .i64 (k:Nat))]) (fun k=>(arS x s xd.db++vS xd v)) (fun k=>k≤l.length∧(l.take k).all (fndB a.Tz a.q)=true) (fun k=>l.length-k) (0) ⟨Nat.zero_le _,rfl⟩ fun k=>?_
     rintro⟨hk1,hk2⟩
     refine Sq<|Rg<|Lv Cm<|Nl<|Ps<|Sq ?_
     refine CW.cond rfl (fun h49=>?_) (fun h49=>?_)
     ·replace h49:=bT h49
      obtain⟨b1,o1,y,rfl,hb1,hy1,hr1⟩:=V.slAt_at h rfl (k:=k) (by omega)
      have hnf:=hd b1 _ rfl
      refine Sk<|Ps<|Sq<|Bk<|Sq<|Rg<|Lv (Val.indexAddrN (i:=k) rfl rfl Tryz.underlying474 Tryz.sizeOf473 (by omega))<|Lv (Val.loadOA (cs:=chC y) rfl Tryz.isAgg473 hb1 hnf (hr1 (k) _ hy1) Tryz.sizeOf473)<|Le AA fun b11 _=>LeN (StW (cs:=chC y)) fun _ _=>Nl<|Ps<|Sq<|Rg<|Lv Mv<|Lv (Lw (l:=chC y))<|Le (CV fun w hw=>(afound_g x s xd.db th n hA y (by have:=hlen y (List.mem_of_getElem? hy1);omega) w (hw.sat.pick (ss:=arS x s xd.db) (by repeat(first|exact .nil|apply Pick.cons|exact .here|apply Ext.there))))) fun _ _=>Lv Nt<|Nl<|Ps ?_
      refine CW.cond rfl (fun h55=>?_) (fun h55=>?_)
      ·replace h55:=bT h55
       refine Sq<|Rg<|Lv Av<|Lv Av<|Nl<|Ps<|Rt<|Br<|Tr<|Tr<|Br<|Tr<|Rt2 ?_
       have e1:pubE a t e0 l=8:=(if_neg hc1).trans ((if_neg hc2).trans (if_pos (List.all_eq_false.2 ⟨y,List.mem_of_getElem? hy1,by rw[← hFd];simpa using h55⟩)))
       have e2:pubA t e0 a v l=(a,v):=if_neg (by rw[e1];decide)
       rw[e1,e2,if_neg (by decide),if_neg (by decide)]
       intro w' hw;exact⟨(s,none),⟨hA,hI,Nat.le_max_left _ _,⟨rfl,rfl⟩⟩,rfl,(hw.pick (ss:=(arS x s xd.db++vS xd v)) (by repeat(first|exact .nil|apply Pick.cons|exact .here|apply Ext.there))).perm (.refl _)⟩
      ·replace h55:=bF h55
       refine Sk<|Bn<|Ps<|Rg<|Lv Ar<|Lv Mv<|Nl ?_
       exact roundA (k+1) ⟨by omega,by rw[all_take hy1,hk2,Bool.true_and,← hFd];simpa using h55⟩ (by omega)
     ·replace h49:=bF h49
      have hc3:l.all (fndB a.Tz a.q)=true:=by rw[List.take_of_length_le (by omega)] at hk2;exact hk2
      refine Xt<|Te<|Te<|Bh<|Ps<|Sq<|Sq<|Rg<|Lv Mv<|Lv Mv<|Le (CV fun w hw=>held_g x s xd.db th n hA (by rw[hI.Tz];exact hz.st) (by rw[hI.Tz];have:=hz.t;omega) (by rw[hI.q];have:=hz.q;omega) (by rw[hI.bg];have:=hz.b;omega) l p c ⟨hl.1,by omega⟩ w (hw.sat.pick (ss:=arS x s xd.db) (by repeat(first|exact .nil|apply Pick.cons|exact .here|apply Ext.there))) (hw.slAt h hd) hdA) fun _ _=>Lv Nt<|Nl<|Ps ?_
      refine CW.cond rfl (fun h60=>?_) (fun h60=>?_)
      ·replace h60:=bT h60
       refine Sq<|Rg<|Lv Av<|Lv Av<|Nl<|Ps<|Rt<|Tr<|Rt2 ?_
       have e1:pubE a t e0 l=1:=(if_neg hc1).trans ((if_neg hc2).trans ((if_neg (by rw[hc3];decide)).trans (if_pos (by rw[← hHe];simpa using h60))))
       have e2:pubA t e0 a v l=(a,v):=if_neg (by rw[e1];decide)
       rw[e1,e2,if_neg (by decide),if_neg (by decide)]
       intro w' hw;exact⟨(s,none),⟨hA,hI,Nat.le_max_left _ _,⟨rfl,rfl⟩⟩,rfl,(hw.pick (ss:=(arS x s xd.db++vS xd v)) (by repeat(first|exact .nil|apply Pick.cons|exact .here|apply Ext.there))).perm (.refl _)⟩
      ·replace h60:=bF h60
       have hc4:heldB a.L (tLinks a.Tz) a.q a.bg l=true:=by rw[← hHe];simpa using h60
       refine Sk<|Ps<|Sq<|Sq<|Rg<|Lv Mv<|Lv Mv<|Lv Mv<|Le (CV fun w hw=>fits_g x s xd.db l p c ⟨hl.1,by omega⟩ hlen (by rw[hI.id,hI.ver];have:=hz.id;have:=hz.ver;omega) e0 he w (hw.sat.pick (ss:=arS x s xd.db) (by repeat(first|exact .nil|apply Pick.cons|exact .here|apply Ext.there))) (hw.slAt h hd) hdA) fun _ _=>LW.re 64 (.int .i64 (fitsF2 a.id a.ver e0 l)) rfl (by rw[hFt])<|Lv Av<|Nl<|Ps<|Sq<|Rg<|Lv Mv<|Lv Cm<|Nl<|Ps ?_
       refine CW.cond rfl (fun h66=>?_) (fun h66=>?_)
       ·replace h66:=bT h66
        have h66:¬fitsF2 a.id a.ver e0 l=0:=h66
        refine Sq<|Rg<|Lv Mv<|Lv Av<|Lv Av<|Nl<|Ps<|Rt<|Tr<|Rt2 ?_
        have e1:pubE a t e0 l=fitsF2 a.id a.ver e0 l:=(if_neg hc1).trans ((if_neg hc2).trans ((if_neg (by rw[hc3];decide)).trans (if_neg (by rw[hc4];decide))))
        have e2:pubA t e0 a v l=(a,v):=if_neg (by rw[e1];exact h66)
        rw[e1,e2,if_neg (by exact h66),if_neg (by exact h66)]
        intro w' hw;exact⟨(s,none),⟨hA,hI,Nat.le_max_left _ _,⟨rfl,rfl⟩⟩,rfl,(hw.pick (ss:=(arS x s xd.db++vS xd v)) (by repeat(first|exact .nil|apply Pick.cons|exact .here|apply Ext.there))).perm (.refl _)⟩
       ·replace h66:=bF h66
        have h66:fitsF2 a.id a.ver e0 l=0:=h66
        have hpub:pubE a t e0 l=0:=(if_neg hc1).trans ((if_neg hc2).trans ((if_neg (by rw[hc3];decide)).trans ((if_neg (by rw[hc4];decide)).trans h66)))
        refine Sk<|Ps<|Sq<|Rg<|Lv Av<|Nl<|Ps<|Sq<|Rg<|Lv Av<|Nl<|Ps<|Sq<|Sq<|Rg<|Lv Mv<|Lv Ln<|Lv Mv<|Nl<|Ps<|Bk ?_
        refine V.CW.perm (sg':=ownG 4 (([]:List Bool).flatMap boC) none::(arS x s xd.db++vS xd v)) ?_ (.refl _)
        refine loopA (γ:=Nat×ArS×V.OwnO) (fun k=>[(0,.pointer (some ⟨x.a,0,none⟩)),(1,.int .i64 t),(2,.int .u64 e0),(3,.slice p l.length c),(13,ownV k.1 k.2.2),(14,.int .u64 (pubZ t e0 a v (l.take k.1)).2.2),(68,.slice p l.length c),(69,.int .i64 (l.length:Nat)),(70,.int .i64 (k.1:Nat))]) (fun k=>ownG 4 ((hitsF (l.take k.1)).flatMap boC) k.2.2::(arS x k.2.1 xd.db++vS xd (pubZ t e0 a v (l.take k.1)).2.1)) (fun k=>k.1≤l.length∧ArOk th n x k.2.1∧ArIs x k.2.1 (pubZ t e0 a v (l.take k.1)).1∧k.2.1.rg.R.length≤max s.rg.R.length 1801∧ownOk 1 k.1 ((hitsF (l.take k.1)).flatMap boC) k.2.2) (fun k=>l.length-k.1) ((0,s,none)) ⟨Nat.zero_le _,hA,hI,Nat.le_max_left _ _,⟨rfl,rfl⟩⟩ fun k=>?_
        rintro⟨hk1,hk2,hk3,hk4,hk5⟩
        refine Sq<|Rg<|Lv Cm<|Nl<|Ps<|Sq ?_
        refine CW.cond rfl (fun h71=>?_) (fun h71=>?_)
        ·replace h71:=bT h71
         obtain⟨b1,o1,y,rfl,hb1,hy1,hr1⟩:=V.slAt_at h rfl (k:=k.1) (by omega)
         have hnf:=hd b1 _ rfl
         have hyl:=hlen y (List.mem_of_getElem? hy1)
         refine Sk<|Ps<|Sq<|Bk<|Sq<|Rg<|Lv (Val.indexAddrN (i:=k.1) rfl rfl Tryz.underlying474 Tryz.sizeOf473 (by omega))<|Lv (Val.loadOA (cs:=chC y) rfl Tryz.isAgg473 hb1 hnf (hr1 (k.1) _ hy1) Tryz.sizeOf473)<|Le AA fun b16 _=>LeN (StW (cs:=chC y)) fun _ _=>Nl<|Ps<|Sq ?_
         refine CW.regJoin (fun o2:V.OwnO=>ownOk 1 (k.1+1) ((hitsF (l.take (k.1+1))).flatMap boC) o2) (fun o2=>[(0,.pointer (some ⟨x.a,0,none⟩)),(1,.int .i64 t),(2,.int .u64 e0),(3,.slice (some ⟨b1,o1,none⟩) l.length c),(13,ownV (k.1+1) o2),(14,.int .u64 (pubZ t e0 a v (l.take k.1)).2.2),(16,.pointer (some ⟨b16,0,none⟩)),(68,.slice (some ⟨b1,o1,none⟩) l.length c),(69,.int .i64 (l.length:Nat)),(70,.int .i64 (k.1:Nat))]) (fun o2=>ownG 4 ((hitsF (l.take (k.1+1))).flatMap boC) o2::[(b16,.cells (chC y).toArray 473 (0,0))]::(arS x k.2.1 xd.db++vS xd (pubZ t e0 a v (l.take k.1)).2.1)) ?_ ?_
         ·refine Rg<|Lv Mv<|Lv (Fa 3 4)<|Lv (Ld (v:= .bool y.had))<|Lv Mv ?_
          refine LW.split (d:=77) rfl (fun h77=>?_) (fun h77=>?_)
          ·replace h77:=bT h77
           refine Lv (Fa 0 3)<|Lv (Ld (v:= .int .i64 y.kind))<|Lv Cm<|Lv Pt<|LW.re 81 (.bool (chOut y)) rfl (by unfold chOut;rw[h77];rfl)<|Le (Eff.buildSlice (rfl) [_] Tryz.underlying97 Tryz.sizeOf4 (by exact Tryz.zeroValue4) rfl rfl rfl rfl (by rfl)) fun b82 _=>Le (Eff.appendAny (boC (chOut y)) (sz:=1) (bytes:=1) (z:= .bool false) (xs:=(hitsF (l.take k.1)).flatMap boC) (m0:=k.1) (o:=k.2.2) (m:=1) (pk:=[ownG 4 ((hitsF (l.take k.1)).flatMap boC) (k.2.2)]) rfl rfl Tryz.underlying97 (by kernel_rfl) rfl (by omega) (by repeat(first|exact .nil|apply Pick.cons|exact .here|apply Ext.there)) (by simp) hk5 (by rfl) (fun hm0=>⟨b82,0,rfl,fun w hw=>V.range_of_block (o:=0) (cs:=boC (chOut y)) (r:=[]) (hw.own _ (show InS (b82,.cells (boC (chOut y)).toArray 4 (0,0)) _ from(by repeat(first|exact .here|exact .inner .here|exact .inner (.inner .here)|refine .there ?_))).mem) rfl⟩) (by rfl) (by omega) (by omega)) fun o2 ho2=>?_
           rw[show(hitsF (l.take k.1)).flatMap boC++boC (chOut y)=(hitsF (l.take (k.1+1))).flatMap boC by unfold hitsF;rw[List.take_add_one,hy1];simp] at ho2⊢
           refine Lv Av<|Nl ?_
           exact joinA (o2) (ho2)
          ·replace h77:=bF h77
           refine Lp<|Lp<|Lp<|Lv Pf<|LW.re 81 (.bool (chOut y)) rfl (by unfold chOut;rw[h77];rfl)<|Le (Eff.buildSlice (rfl) [_] Tryz.underlying97 Tryz.sizeOf4 (by exact Tryz.zeroValue4) rfl rfl rfl rfl (by rfl)) fun b82 _=>Le (Eff.appendAny (boC (chOut y)) (sz:=1) (bytes:=1) (z:= .bool false) (xs:=(hitsF (l.take k.1)).flatMap boC) (m0:=k.1) (o:=k.2.2) (m:=1) (pk:=[ownG 4 ((hitsF (l.take k.1)).flatMap boC) (k.2.2)]) rfl rfl Tryz.underlying97 (by kernel_rfl) rfl (by omega) (by repeat(first|exact .nil|apply Pick.cons|exact .here|apply Ext.there)) (by simp) hk5 (by rfl) (fun hm0=>⟨b82,0,rfl,fun w hw=>V.range_of_block (o:=0) (cs:=boC (chOut y)) (r:=[]) (hw.own _ (show InS (b82,.cells (boC (chOut y)).toArray 4 (0,0)) _ from(by repeat(first|exact .here|exact .inner .here|exact .inner (.inner .here)|refine .there ?_))).mem) rfl⟩) (by rfl) (by omega) (by omega)) fun o2 ho2=>?_
           rw[show(hitsF (l.take k.1)).flatMap boC++boC (chOut y)=(hitsF (l.take (k.1+1))).flatMap boC by unfold hitsF;rw[List.take_add_one,hy1];simp] at ho2⊢
           refine Lv Av<|Nl ?_
           exact joinA (o2) (ho2)
         ·intro o2 ho2
          refine Ps<|Sq<|Rg<|Lv (Lw (l:=chC y))<|Le (CV fun w hw=>needs_c y w) fun _ _=>Nl<|Ps ?_
          refine CW.cond rfl (fun h85=>?_) (fun h85=>?_)
          ·replace h85:=bT h85
           have hn:needB y=true:=h85
           have hok:=pub_ok hin hids (v:=v) hpub hy1 hn
           refine Sq<|Rg<|Lv Mv<|Lv Mv<|Lv Mv<|Lv (Lw (l:=chC y))<|Lv Mv<|Le (CM ((arS x k.2.1 xd.db++vS xd (pubZ t e0 a v (l.take k.1)).2.1)) fun w hw hs0=>change_g x k.2.1 th n (pubZ t e0 a v (l.take k.1)).1 xd (pubZ t e0 a v (l.take k.1)).2.1 hk2 hk3 ((pubZ_in hin hids (v:=v) hpub k.1 (by omega)).sz (by omega) (by omega)) (by omega) t e0 (pubZ t e0 a v (l.take k.1)).2.2 y hok.1 hyl hok.2.1 w hs0) fun s2 hs2=>Lv Av<|Nl<|Ps<|Sq<|Rg<|Lv Mv<|Lv Cm<|Nl<|Ps ?_
           refine CW.cond rfl (fun h93=>?_) (fun h93=>?_)
           ·replace h93:=bT h93
            have h93:(pubZ t e0 a v (l.take k.1)).2.2=0:=h93
            refine Rg<|Lv Mv<|Lv Av<|Nl<|Bn<|Ps<|Rg<|Lv Ar<|Lv Mv<|Nl ?_
            have e3:=pubZ_up (t:=t) (e:=e0) (a:=a) (v:=v) hy1
            rw[if_pos hn] at e3
            have e4:(pubZ t e0 a v (l.take (k.1+1))).1=chA t e0 (pubZ t e0 a v (l.take k.1)).1 y (pubZ t e0 a v (l.take k.1)).2.2:=by rw[e3]
            have e5:(pubZ t e0 a v (l.take (k.1+1))).2.1=chDev e0 (pubZ t e0 a v (l.take k.1)).1 (pubZ t e0 a v (l.take k.1)).2.1 y:=by rw[e3]
            have e6:(pubZ t e0 a v (l.take (k.1+1))).2.2=(pubZ t e0 a v (l.take k.1)).1.ver+1:=by rw[e3];exact if_pos h93
            rw[← e5]
            refine PQ.round ((k.1+1,s2,o2)) ⟨by simp only;omega,hs2.1,by simp only;rw[e4];exact hs2.2.1,by have:=hs2.2.2;simp only;omega,ho2⟩ (by simp only;omega) (by exact⟨rfl,rfl,rfl,rfl,rfl,congrArg (fun z=>some (Value.int .u64 z)) e6.symm,rfl,rfl,rfl,trivial⟩) (by repeat(first|exact .nil|apply Pick.cons|exact .here|apply Ext.there))
           ·replace h93:=bF h93
            have h93:¬(pubZ t e0 a v (l.take k.1)).2.2=0:=h93
            refine Sk<|Bn<|Ps<|Rg<|Lv Ar<|Lv Mv<|Nl ?_
            have e3:=pubZ_up (t:=t) (e:=e0) (a:=a) (v:=v) hy1
            rw[if_pos hn] at e3
            have e4:(pubZ t e0 a v (l.take (k.1+1))).1=chA t e0 (pubZ t e0 a v (l.take k.1)).1 y (pubZ t e0 a v (l.take k.1)).2.2:=by rw[e3]
            have e5:(pubZ t e0 a v (l.take (k.1+1))).2.1=chDev e0 (pubZ t e0 a v (l.take k.1)).1 (pubZ t e0 a v (l.take k.1)).2.1 y:=by rw[e3]
            have e6:(pubZ t e0 a v (l.take (k.1+1))).2.2=(pubZ t e0 a v (l.take k.1)).2.2:=by rw[e3];exact if_neg h93
            rw[← e5]
            refine PQ.round ((k.1+1,s2,o2)) ⟨by simp only;omega,hs2.1,by simp only;rw[e4];exact hs2.2.1,by have:=hs2.2.2;simp only;omega,ho2⟩ (by simp only;omega) (by exact⟨rfl,rfl,rfl,rfl,rfl,congrArg (fun z=>some (Value.int .u64 z)) e6.symm,rfl,rfl,rfl,trivial⟩) (by repeat(first|exact .nil|apply Pick.cons|exact .here|apply Ext.there))
          ·replace h85:=bF h85
           have h85:needB y=false:=h85
           refine Sk<|Bn<|Ps<|Rg<|Lv Ar<|Lv Mv<|Nl ?_
           have e3:=pubZ_up (t:=t) (e:=e0) (a:=a) (v:=v) hy1
           rw[if_neg (by rw[h85];decide)] at e3
           rw[← e3]
           refine PQ.round ((k.1+1,k.2.1,o2)) ⟨by simp only;omega,hk2,by simp only;rw[e3];exact hk3,hk4,ho2⟩ (by simp only;omega) (by exact⟨rfl,rfl,rfl,rfl,rfl,rfl,rfl,rfl,rfl,trivial⟩) (by repeat(first|exact .nil|apply Pick.cons|exact .here|apply Ext.there))
        ·replace h71:=bF h71
         refine Xt<|Te<|Te<|Bh<|Ps<|Sq<|Rg<|Lv Mv<|Lv Av<|Lv Av<|Nl<|Ps<|Rt<|Rt2 ?_
         obtain⟨k1,s9,o9⟩:=k
         have hke:k1=l.length:=by simp only at hk1 h71;omega
         subst hke
         simp only at hk2 hk3 hk4 hk5
         have e0z:pubE a t e0 l=0:=hpub
         have e2:pubA t e0 a v l=((pubZ t e0 a v l).1,(pubZ t e0 a v l).2.1):=if_pos hpub
         simp only[List.take_length] at hk2 hk3 hk4 hk5⊢
         rw[e0z,e2,if_pos rfl,if_pos rfl]
         have ehl:(hitsF l).length=l.length:=by unfold hitsF;rw[List.length_map]
         rw[ehl]
         intro w' hw;exact⟨(s9,o9),⟨hk2,hk3,hk4,hk5⟩,rfl,hw.pick (by repeat(first|exact .nil|apply Pick.cons|exact .here|apply Ext.there))⟩
instance:Cal Tryz.prog 95:=⟨Tryz.call95⟩
instance:Cal Tryz.prog 97:=⟨Tryz.call97⟩
instance:Cal Tryz.prog 318:=⟨Tryz.call318⟩
instance:Cal Tryz.prog 378:=⟨Tryz.call378⟩
theorem giveF_len (L:List Slb)(line:Int):(giveF L line).1.length=L.length:=by
 unfold giveF
 split
 ·rfl
 ·split
  ·simp
  ·rfl
instance:Und Tryz.prog 89 (dOf Tryz.underlying89):=⟨Tryz.underlying89⟩
instance:Siz Tryz.prog 89 (kOf Tryz.sizeOf89):=⟨Tryz.sizeOf89⟩
instance:AgF Tryz.prog 89:=⟨Tryz.isAgg89⟩
instance:Und Tryz.prog 91 (dOf Tryz.underlying91):=⟨Tryz.underlying91⟩
instance:Siz Tryz.prog 91 (kOf Tryz.sizeOf91):=⟨Tryz.sizeOf91⟩
instance:AgT Tryz.prog 91:=⟨Tryz.isAgg91⟩
instance:Zer Tryz.prog 91 (zOf Tryz.zeroValue91):=⟨Tryz.zeroValue91⟩
instance:Siz Tryz.prog 95 (kOf Tryz.sizeOf95):=⟨Tryz.sizeOf95⟩
instance:AgF Tryz.prog 95:=⟨Tryz.isAgg95⟩
instance:Und Tryz.prog 99 (dOf Tryz.underlying99):=⟨Tryz.underlying99⟩
instance:Siz Tryz.prog 99 (kOf Tryz.sizeOf99):=⟨Tryz.sizeOf99⟩
instance:AgT Tryz.prog 99:=⟨Tryz.isAgg99⟩
instance:Zer Tryz.prog 99 (zOf Tryz.zeroValue99):=⟨Tryz.zeroValue99⟩
instance:Cal Tryz.prog 99:=⟨Tryz.call99⟩
instance:Cal Tryz.prog 144:=⟨Tryz.call144⟩
instance:Cal Tryz.prog 145:=⟨Tryz.call145⟩
instance:Cal Tryz.prog 146:=⟨Tryz.call146⟩
theorem oneS (l:List UInt8):(str l).oneCell'=true:=rfl
structure Kal where
 k:Int
 key:List UInt8
 val:List UInt8
 tu:List UInt8
 deriving DecidableEq
def kal0:Kal:=⟨0,[],[],[]⟩
abbrev Kz:=Kal×Option Addr×Nat
def kz0:Kz:=(kal0,none,0)
def kzC (z:Kz):List Value:=[.int .i64 z.1.k,str z.1.key,str z.1.val,str z.1.tu,.slice z.2.1 0 z.2.2]
theorem kzC_len (z:Kz):(kzC z).length=5:=rfl
def klC (c:Kal)(g:Value):List Value:=[.int .i64 c.k,str c.key,str c.val,str c.tu,g]
structure Prt where
 had:Bool
 old:Lk
 line:Int
 cls:Int
 deriving DecidableEq
def pt0:Prt:=⟨false,lk0,0,0⟩
def ptC (p:Prt):List Value:= .bool p.had::(lkC p.old++[.int .i64 p.line,.int .i64 p.cls])
theorem ptC_len (p:Prt):(ptC p).length=8:=rfl
structure Ans where
 code:Int
 fd:Bool
 val:List UInt8
 ps:List (List UInt8×List UInt8)
 hs:List Bool
 ep:Int
 deriving DecidableEq
def an0:Ans:=⟨0,false,[],[],[],0⟩
def anC (a:Ans)(so ho:V.OwnO):List Value:=[.int .i64 a.code,.bool a.fd,str a.val,ownV a.ps.length so,ownV a.hs.length ho,.int .u64 a.ep]
structure Frm where
 c:Kal
 g:List Kal
 ph:Int
 ep:Int
 pos:List UInt8
 past:Bool
 lev:Int
 had:Bool
 old:Lk
 line:Int
 cls:Int
 pc:Int
 bs:List UInt8
 at_:Int
 pa:List Prt
 an:Ans
 deriving DecidableEq
def fr0:Frm:=⟨kal0,[],0,0,[],false,0,false,lk0,0,0,0,[],0,[],an0⟩
structure FrO where
 gz:List Kz
 go:V.OwnO
 bo:V.OwnO
 po:V.OwnO
 so:V.OwnO
 ho:V.OwnO
def fo0:FrO:=⟨[],none,none,none,none,none⟩
def frC (f:Frm)(o:FrO):List Value:=klC f.c (ownV f.g.length o.go)++([.int .i64 f.ph,.int .u64 f.ep,str f.pos,.bool f.past,.int .i64 f.lev,.bool f.had]++(lkC f.old++([.int .i64 f.line,.int .i64 f.cls,.int .i64 f.pc,ownV f.bs.length o.bo,.int .i64 f.at_,ownV f.pa.length o.po]++anC f.an o.so o.ho)))
structure FrOk (f:Frm)(o:FrO):Prop where
 gz:o.gz.map Prod.fst=f.g
 go:ownOk 5 o.gz.length (o.gz.flatMap kzC) o.go
 bo:ownOk 1 f.bs.length (byC f.bs) o.bo
 po:ownOk 8 f.pa.length (f.pa.flatMap ptC) o.po
 so:ownOk 2 f.an.ps.length (f.an.ps.flatMap prC) o.so
 ho:ownOk 1 f.an.hs.length (f.an.hs.flatMap boC) o.ho
abbrev anS (a:Ans)(so ho:V.OwnO):Sg:=[ownG 122 (a.ps.flatMap prC) so,ownG 4 (a.hs.flatMap boC) ho]
abbrev frS (f:Frm)(o:FrO):Sg:=ownG 91 (o.gz.flatMap kzC) o.go::ownG 5 (byC f.bs) o.bo::ownG 192 (f.pa.flatMap ptC) o.po::anS f.an o.so o.ho
theorem FrOk.gl {f:Frm}{o:FrO}(h:FrOk f o):o.gz.length=f.g.length:=by rw[← h.gz,List.length_map]
theorem kz_one (l:List Kz):(l.flatMap kzC).all (·.oneCell')=true:=by
 induction l with
 |nil=>rfl
 |cons f r ih=>rw[List.flatMap_cons,List.all_append,ih];rfl
theorem pt_one (l:List Prt):(l.flatMap ptC).all (·.oneCell')=true:=by
 induction l with
 |nil=>rfl
 |cons f r ih=>rw[List.flatMap_cons,List.all_append,ih];rfl
theorem pr_one (l:List (List UInt8×List UInt8)):(l.flatMap prC).all (·.oneCell')=true:=by
 induction l with
 |nil=>rfl
 |cons f r ih=>rw[List.flatMap_cons,List.all_append,ih];rfl
theorem bo_one (l:List Bool):(l.flatMap boC).all (·.oneCell')=true:=by
 induction l with
 |nil=>rfl
 |cons f r ih=>rw[List.flatMap_cons,List.all_append,ih];rfl
theorem cloneKz_c (l:List Kz)(p:Option Addr)(c:Nat)(hl:l.length≤3000)(w:World)(h:V.slAt w p 5 kzC l):Calls Tryz.prog 144 [.slice p l.length c].toArray w fun e w'=>∃o:V.OwnO,ownOk 5 l.length (l.flatMap kzC) o∧e= .returned (ownV l.length o)∧Hp ⟨w,[]⟩ [ownG 91 (l.flatMap kzC) o] w':=by
 haveI:Inhabited Kz:=⟨kz0⟩
 refine V.calls [] Tryz.func144 rfl Tryz.ntmps144 (Nat.le_of_ble_eq_true rfl) (V.sat_nil _)<|Sq<|Rg<|Lv Av<|Nl<|Ps<|Sq<|Sq<|Rg<|Lv Mv<|Lv (Val.eqSlNil rfl rfl Tryz.underlying89)<|Nl<|Ps ?_
 refine CW.cond rfl (fun h4=>?_) (fun h4=>?_)
 ·replace h4:=bT h4
  have hpn:p=none:=by cases p with|none=>rfl|some q=>simp at h4
  obtain rfl:l=[]:=by
   rcases h with h|⟨b,o,h,_⟩
   ·exact h
   ·rw[hpn] at h;cases h
  refine Sq<|Rg<|Lv Av<|Nl<|Ps<|Rt<|Tr<|Rt1 ?_
  intro w' hw;exact⟨none,⟨rfl,rfl⟩,rfl,hw.perm (.refl _)⟩
 ·replace h4:=bF h4
  refine Sk<|Ps<|Sq<|Rg<|Le (Eff.buildSlice0 Tryz.underlying89 Tryz.sizeOf91) fun b5 _=>Lv Mv<|Le (Eff.appendAny (l.flatMap kzC) (sz:=5) (bytes:=80) (z:= .agg #[.int .i64 0,.string ⟨#[]⟩,.string ⟨#[]⟩,.string ⟨#[]⟩,.slice none 0 0]) (xs:=[]) (m0:=0) (o:=some (b5,[],0)) (m:=l.length) (pk:=[ownG 91 [] (some (b5,[],0))]) rfl rfl Tryz.underlying89 (by kernel_rfl) rfl (by omega) (by repeat(first|exact .nil|apply Pick.cons|exact .here|apply Ext.there)) (by simp) ⟨rfl,rfl⟩ (V.flatMap_len kzC_len _) (fun hm0=>by obtain⟨b8,o8,h8,h9⟩:=sl_range (F:=[]) kzC_len h hm0 (by simp);exact⟨b8,o8,h8,fun w1 hw1=>h9 w1 hw1⟩) (kz_one l) (by omega) (by omega)) fun o2 ho2=>?_
  have h2:ownOk 5 l.length (l.flatMap kzC) o2:=by simpa using ho2
  rw[List.nil_append,Nat.zero_add]
  refine Lv Av<|Nl<|Ps<|Rt<|Rt1 ?_
  intro w' hw;exact⟨o2,h2,rfl,hw.pick (by repeat(first|exact .nil|apply Pick.cons|exact .here|apply Ext.there))⟩
theorem clonePt_c (l:List Prt)(p:Option Addr)(c:Nat)(hl:l.length≤1000)(w:World)(h:V.slAt w p 8 ptC l):Calls Tryz.prog 290 [.slice p l.length c].toArray w fun e w'=>∃o:V.OwnO,ownOk 8 l.length (l.flatMap ptC) o∧e= .returned (ownV l.length o)∧Hp ⟨w,[]⟩ [ownG 192 (l.flatMap ptC) o] w':=by
 haveI:Inhabited Prt:=⟨pt0⟩
 refine V.calls [] Tryz.func290 rfl Tryz.ntmps290 (Nat.le_of_ble_eq_true rfl) (V.sat_nil _)<|Sq<|Rg<|Lv Av<|Nl<|Ps<|Sq<|Sq<|Rg<|Lv Mv<|Lv (Val.eqSlNil rfl rfl Tryz.underlying95)<|Nl<|Ps ?_
 refine CW.cond rfl (fun h4=>?_) (fun h4=>?_)
 ·replace h4:=bT h4
  have hpn:p=none:=by cases p with|none=>rfl|some q=>simp at h4
  obtain rfl:l=[]:=by
   rcases h with h|⟨b,o,h,_⟩
   ·exact h
   ·rw[hpn] at h;cases h
  refine Sq<|Rg<|Lv Av<|Nl<|Ps<|Rt<|Tr<|Rt1 ?_
  intro w' hw;exact⟨none,⟨rfl,rfl⟩,rfl,hw.perm (.refl _)⟩
 ·replace h4:=bF h4
  refine Sk<|Ps<|Sq<|Rg<|Le (Eff.buildSlice0 Tryz.underlying95 Tryz.sizeOf192) fun b5 _=>Lv Mv<|Le (Eff.appendAny (l.flatMap ptC) (sz:=8) (bytes:=72) (z:= .agg #[.bool false,.string ⟨#[]⟩,.int .u64 0,.int .u64 0,.int .i64 0,.int .i64 0,.int .i64 0,.int .i64 0]) (xs:=[]) (m0:=0) (o:=some (b5,[],0)) (m:=l.length) (pk:=[ownG 192 [] (some (b5,[],0))]) rfl rfl Tryz.underlying95 (by kernel_rfl) rfl (by omega) (by repeat(first|exact .nil|apply Pick.cons|exact .here|apply Ext.there)) (by simp) ⟨rfl,rfl⟩ (V.flatMap_len ptC_len _) (fun hm0=>by obtain⟨b8,o8,h8,h9⟩:=sl_range (F:=[]) ptC_len h hm0 (by simp);exact⟨b8,o8,h8,fun w1 hw1=>h9 w1 hw1⟩) (pt_one l) (by omega) (by omega)) fun o2 ho2=>?_
  have h2:ownOk 8 l.length (l.flatMap ptC) o2:=by simpa using ho2
  rw[List.nil_append,Nat.zero_add]
  refine Lv Av<|Nl<|Ps<|Rt<|Rt1 ?_
  intro w' hw;exact⟨o2,h2,rfl,hw.pick (by repeat(first|exact .nil|apply Pick.cons|exact .here|apply Ext.there))⟩
theorem clonePr_c (l:List (List UInt8×List UInt8))(p:Option Addr)(c:Nat)(hl:l.length≤100000)(w:World)(h:V.slAt w p 2 prC l):Calls Tryz.prog 145 [.slice p l.length c].toArray w fun e w'=>∃o:V.OwnO,ownOk 2 l.length (l.flatMap prC) o∧e= .returned (ownV l.length o)∧Hp ⟨w,[]⟩ [ownG 122 (l.flatMap prC) o] w':=by
 haveI:Inhabited (List UInt8×List UInt8):=⟨([],[])⟩
 refine V.calls [] Tryz.func145 rfl Tryz.ntmps145 (Nat.le_of_ble_eq_true rfl) (V.sat_nil _)<|Sq<|Rg<|Lv Av<|Nl<|Ps<|Sq<|Sq<|Rg<|Lv Mv<|Lv (Val.eqSlNil rfl rfl Tryz.underlying96)<|Nl<|Ps ?_
 refine CW.cond rfl (fun h4=>?_) (fun h4=>?_)
 ·replace h4:=bT h4
  have hpn:p=none:=by cases p with|none=>rfl|some q=>simp at h4
  obtain rfl:l=[]:=by
   rcases h with h|⟨b,o,h,_⟩
   ·exact h
   ·rw[hpn] at h;cases h
  refine Sq<|Rg<|Lv Av<|Nl<|Ps<|Rt<|Tr<|Rt1 ?_
  intro w' hw;exact⟨none,⟨rfl,rfl⟩,rfl,hw.perm (.refl _)⟩
 ·replace h4:=bF h4
  refine Sk<|Ps<|Sq<|Rg<|Le (Eff.buildSlice0 Tryz.underlying96 Tryz.sizeOf122) fun b5 _=>Lv Mv<|Le (Eff.appendAny (l.flatMap prC) (sz:=2) (bytes:=32) (z:= .agg #[.string ⟨#[]⟩,.string ⟨#[]⟩]) (xs:=[]) (m0:=0) (o:=some (b5,[],0)) (m:=l.length) (pk:=[ownG 122 [] (some (b5,[],0))]) rfl rfl Tryz.underlying96 (by kernel_rfl) rfl (by omega) (by repeat(first|exact .nil|apply Pick.cons|exact .here|apply Ext.there)) (by simp) ⟨rfl,rfl⟩ (V.flatMap_len prC_len _) (fun hm0=>by obtain⟨b8,o8,h8,h9⟩:=sl_range (F:=[]) prC_len h hm0 (by simp);exact⟨b8,o8,h8,fun w1 hw1=>h9 w1 hw1⟩) (pr_one l) (by omega) (by omega)) fun o2 ho2=>?_
  have h2:ownOk 2 l.length (l.flatMap prC) o2:=by simpa using ho2
  rw[List.nil_append,Nat.zero_add]
  refine Lv Av<|Nl<|Ps<|Rt<|Rt1 ?_
  intro w' hw;exact⟨o2,h2,rfl,hw.pick (by repeat(first|exact .nil|apply Pick.cons|exact .here|apply Ext.there))⟩
theorem cloneBo_c (l:List Bool)(p:Option Addr)(c:Nat)(hl:l.length≤100000)(w:World)(h:V.slAt w p 1 boC l):Calls Tryz.prog 146 [.slice p l.length c].toArray w fun e w'=>∃o:V.OwnO,ownOk 1 l.length (l.flatMap boC) o∧e= .returned (ownV l.length o)∧Hp ⟨w,[]⟩ [ownG 4 (l.flatMap boC) o] w':=by
 haveI:Inhabited Bool:=⟨false⟩
 refine V.calls [] Tryz.func146 rfl Tryz.ntmps146 (Nat.le_of_ble_eq_true rfl) (V.sat_nil _)<|Sq<|Rg<|Lv Av<|Nl<|Ps<|Sq<|Sq<|Rg<|Lv Mv<|Lv (Val.eqSlNil rfl rfl Tryz.underlying97)<|Nl<|Ps ?_
 refine CW.cond rfl (fun h4=>?_) (fun h4=>?_)
 ·replace h4:=bT h4
  have hpn:p=none:=by cases p with|none=>rfl|some q=>simp at h4
  obtain rfl:l=[]:=by
   rcases h with h|⟨b,o,h,_⟩
   ·exact h
   ·rw[hpn] at h;cases h
  refine Sq<|Rg<|Lv Av<|Nl<|Ps<|Rt<|Tr<|Rt1 ?_
  intro w' hw;exact⟨none,⟨rfl,rfl⟩,rfl,hw.perm (.refl _)⟩
 ·replace h4:=bF h4
  refine Sk<|Ps<|Sq<|Rg<|Le (Eff.buildSlice0 Tryz.underlying97 Tryz.sizeOf4) fun b5 _=>Lv Mv<|Le (Eff.appendAny (l.flatMap boC) (sz:=1) (bytes:=1) (z:= .bool false) (xs:=[]) (m0:=0) (o:=some (b5,[],0)) (m:=l.length) (pk:=[ownG 4 [] (some (b5,[],0))]) rfl rfl Tryz.underlying97 (by kernel_rfl) rfl (by omega) (by repeat(first|exact .nil|apply Pick.cons|exact .here|apply Ext.there)) (by simp) ⟨rfl,rfl⟩ (V.flatMap_len boC_len _) (fun hm0=>by obtain⟨b8,o8,h8,h9⟩:=sl_range (F:=[]) boC_len h hm0 (by simp);exact⟨b8,o8,h8,fun w1 hw1=>h9 w1 hw1⟩) (bo_one l) (by omega) (by omega)) fun o2 ho2=>?_
  have h2:ownOk 1 l.length (l.flatMap boC) o2:=by simpa using ho2
  rw[List.nil_append,Nat.zero_add]
  refine Lv Av<|Nl<|Ps<|Rt<|Rt1 ?_
  intro w' hw;exact⟨o2,h2,rfl,hw.pick (by repeat(first|exact .nil|apply Pick.cons|exact .here|apply Ext.there))⟩
theorem fcall0_g (c:Kal)(gp:Option Addr)(gc:Nat)(w:World):Calls Tryz.prog 99 [.agg (kzC (c,gp,gc)).toArray].toArray w fun e w'=>∃z:Option Addr×Nat,True∧e= .returned (.agg (kzC (c,z)).toArray)∧Below w.heap.size w w':=by
 refine V.calls [] Tryz.func99 rfl Tryz.ntmps99 (Nat.le_of_ble_eq_true rfl) (V.sat_nil _)<|Sq<|Rg<|Le XA fun b1 _=>Le AA fun b2 _=>Nl<|Ps<|Sq<|Rg<|Lv (Fa 4 89)<|Lv (Ld (v:= .slice gp 0 gc))<|Le (CM [] fun w hw hs=>cloneKz_c [] gp gc (by simp) w (.inl rfl)) fun o ho=>?_
 obtain⟨z1,z2,hz⟩:∃z1 z2,ownV ([]:List Kz).length o= .slice z1 0 z2:=by
  rcases o with _|⟨g,r,cp⟩
  ·exact⟨none,0,rfl⟩
  ·exact⟨some ⟨g,0,none⟩,cp,rfl⟩
 refine LW.re 7 (.slice z1 0 z2) rfl hz<|Lv (Fa 4 89)<|LeN StS fun _ _=>Nl<|Ps<|Sq<|Sq<|Rg<|Lv (Fa 4 89)<|Lv (Ld (v:= .slice z1 0 z2))<|Lv Ln<|Lv Mv<|Nl<|Ps<|Bk<|CW.loopU 0<|Sq<|Rg<|Lv Cm<|Nl<|Ps<|Sq<|Cf<|Xt<|Te<|Te<|Bh<|Ps<|Sq<|Rg<|Lv (Lw (l:=kzC (c,z1,z2)))<|LeN (StW (cs:=kzC (c,z1,z2))) fun _ _=>Nl<|Ps<|Rt<|PQ.retC (l:=kzC (c,z1,z2)) rfl rfl (by repeat(first|exact .here|exact .inner .here|exact .inner (.inner .here)|refine .there ?_)) Tryz.isAgg91 (by exact Tryz.sizeOf91) ?_
 intro w' hw;exact⟨(z1,z2),trivial,rfl,hw.below⟩
theorem kz_own {L:List Kz}{o:V.OwnO}(ho:ownOk 5 L.length (L.flatMap kzC) o){k:Nat}(hk:k<L.length):∃g r c,o=some (g,r,c):=by
 rcases o with _|⟨g,r,c⟩
 ·exact absurd ho.2 (by omega)
 ·exact⟨g,r,c,rfl⟩
theorem fcall_g (c:Kal)(gl:List Kz)(gp:Option Addr)(gc:Nat)(hl:gl.length≤3000)(w:World)(h:V.slAt w gp 5 kzC gl):Calls Tryz.prog 99 [.agg (klC c (.slice gp gl.length gc)).toArray].toArray w fun e w'=>∃y:List Kz×V.OwnO,(y.1.map Prod.fst=gl.map Prod.fst∧ownOk 5 y.1.length (y.1.flatMap kzC) y.2)∧e= .returned (.agg (klC c (ownV y.1.length y.2)).toArray)∧Hp ⟨w,[]⟩ [ownG 91 ((y.1).flatMap kzC) y.2] w':=by
 refine V.calls [] Tryz.func99 rfl Tryz.ntmps99 (Nat.le_of_ble_eq_true rfl) (V.sat_nil _)<|Sq<|Rg<|Le XA fun b1 _=>Le AA fun b2 _=>Nl<|Ps<|Sq<|Rg<|Lv (Fa 4 89)<|Lv (Ld (v:= .slice gp gl.length gc))<|Le (CM [] fun w hw hs0=>cloneKz_c gl gp gc hl w (hw.slAt h (by simp[ids]))) fun o ho=>Lv (Fa 4 89)<|LeN (StS (h1:=V.ownV_one _ _)) fun _ _=>Nl<|Ps<|Sq<|Sq<|Rg<|Lv (Fa 4 89)<|Lv (Ld (v:=ownV gl.length o))<|Lv (Val.lenOwn rfl Tryz.underlying89 ho)<|Lv Mv<|Nl<|Ps<|Bk<|loopA (γ:=Nat×List Kz) (fun k=>[(1,.pointer (some ⟨b1,0,none⟩)),(2,.pointer (some ⟨b2,0,none⟩)),(10,ownV gl.length o),(11,.int .i64 (gl.length:Nat)),(12,.int .i64 (k.1:Nat))]) (fun k=>[[(b1,.cells (klC c (ownV gl.length o)).toArray 91 (0,0))],ownG 91 ((k.2).flatMap kzC) o,[(b2,.cells (kzC kz0).toArray 91 (0,0))]]) (fun k=>k.1≤gl.length∧k.2.map Prod.fst=gl.map Prod.fst∧ownOk 5 k.2.length (k.2.flatMap kzC) o) (fun k=>gl.length-k.1) ((0,gl)) ⟨Nat.zero_le _,rfl,ho⟩ fun k=>?_
 rintro⟨hk1,hk2,hk3⟩
 have hkn:k.2.length=gl.length:=by have:=congrArg List.length hk2;simpa using this
 refine Sq<|Rg<|Lv Cm<|Nl<|Ps<|Sq ?_
 refine CW.cond rfl (fun h13=>?_) (fun h13=>?_)
 ·replace h13:=bT h13
  have hkl:k.1<k.2.length:=by omega
  obtain⟨y,hy⟩:∃y,k.2[k.1]? =some y:=⟨k.2[k.1]'hkl,by simp⟩
  obtain⟨g,rest,cap,rfl⟩:=kz_own (L:=k.2) hk3 hkl
  obtain⟨r9,hr9⟩:=V.drop_flatMap kzC_len k.2 k.1 y hy
  have hr8:(k.2.flatMap kzC++rest).drop (0+k.1*5)=kzC y++(r9++rest):=by
   rw[Nat.zero_add,List.drop_append_of_le_length (by rw[V.flatMap_len kzC_len];omega),hr9,List.append_assoc]
  have hgn:gl.length=k.2.length:=by have:=congrArg List.length hk2;simpa using this.symm
  refine Sk<|Ps<|Sq<|Bk<|Sq<|Rg<|Lv Mv<|Lv (Val.indexAddrN (i:=k.1) rfl rfl Tryz.underlying89 Tryz.sizeOf91 (by omega))<|Lv (La (kzC y) (r:=r9++rest) (hl:=hr8))<|Le AA fun b4 _=>Lv Av<|LeN (StW (cs:=kzC y)) fun _ _=>Nl<|Ps<|Dr ([[(b1,.cells (klC c (.slice (some ⟨g,0,none⟩) gl.length cap)).toArray 91 (0,0))],[(b4,.cells (kzC y).toArray 91 (0,0))]])<|Rv 0 rfl (Fa 4 89)<|Rv 1 rfl (Ld (v:= .slice (some ⟨g,0,none⟩) gl.length cap))<|Rv 2 rfl Mv<|Rv 3 rfl (Lw (l:=kzC y))<|Re 4 rfl (CR fun w hw=>fcall0_g y.1 y.2.1 y.2.2 w) fun z _=>Rv 5 rfl (Val.indexAddrN (i:=k.1) rfl rfl Tryz.underlying89 Tryz.sizeOf91 (by omega))<|ReN 6 rfl (Eff.storeA (cs:=kzC (y.1,z)) (l:=k.2.flatMap kzC++rest) (l':=(k.2.set k.1 (y.1,z)).flatMap kzC++rest) rfl rfl (by repeat(first|exact .here|exact .inner .here|exact .inner (.inner .here)|apply Upd.there)) (by have h8:=splice_in kzC_len hy 0 (kzC (y.1,z)) (y:=(y.1,z)) (by rfl) (by simp[kzC_len]) rest;simpa using h8) (by rw[List.length_append,V.flatMap_len kzC_len];have:=Nat.mul_le_mul_right 5 (show k.1+1≤k.2.length from hkl);simp[kzC];omega) Tryz.sizeOf91 (by rfl)) fun _ _=>Rd<|Bn<|Ps<|Rg<|Lv Ar<|Lv Mv<|Nl ?_
  refine PQ.round ((k.1+1,(k.2.set k.1 (y.1,z)))) ⟨by simp only;omega,by simp only;rw[List.map_set,show((y.1,z):Kz).1=y.1 from rfl,set_same (by rw[List.getElem?_map,hy];rfl)];exact hk2,by
   simp only
   refine⟨V.flatMap_len kzC_len _,?_⟩
   have h8:=hk3.2
   simp only[V.flatMap_len kzC_len,List.length_set] at h8⊢
   exact h8⟩ (by simp only;omega) (by repeat(first|exact trivial|refine⟨rfl,?_⟩)) (by repeat(first|exact .nil|apply Pick.cons|exact .here|apply Ext.there))
 ·replace h13:=bF h13
  refine Xt<|Te<|Te<|Bh<|Ps<|Sq<|Rg<|Lv (Lw (l:=klC c (ownV gl.length o)))<|LeN (StW (cs:=klC c (ownV gl.length o)) (h1:=by simp only[klC,List.all_cons,List.all_nil,V.ownV_one,oneS,oneI,oneB,Bool.and_true])) fun _ _=>Nl<|Ps<|Rt<|PQ.retC (l:=klC c (ownV gl.length o)) rfl rfl (by repeat(first|exact .here|exact .inner .here|exact .inner (.inner .here)|refine .there ?_)) Tryz.isAgg91 (by exact Tryz.sizeOf91) ?_
  intro w' hw;exact⟨(k.2,o),⟨hk2,hk3⟩,by rw[hkn],hw.pick (by repeat(first|exact .nil|apply Pick.cons|exact .here|apply Ext.there))⟩
theorem fans_g (a:Ans)(sp hp:Option Addr)(sc hc:Nat)(hl:a.ps.length≤100000∧a.hs.length≤100000)(w:World)(h1:V.slAt w sp 2 prC a.ps)(h2:V.slAt w hp 1 boC a.hs):Calls Tryz.prog 100 [.agg [.int .i64 a.code,.bool a.fd,str a.val,.slice sp a.ps.length sc,.slice hp a.hs.length hc,.int .u64 a.ep].toArray].toArray w fun e w'=>∃y:V.OwnO×V.OwnO,(ownOk 2 a.ps.length (a.ps.flatMap prC) y.1∧ownOk 1 a.hs.length (a.hs.flatMap boC) y.2)∧e= .returned (.agg (anC a y.1 y.2).toArray)∧Hp ⟨w,[]⟩ (anS a y.1 y.2) w':=by
 refine V.calls [] Tryz.func100 rfl Tryz.ntmps100 (Nat.le_of_ble_eq_true rfl) (V.sat_nil _)<|Sq<|Rg<|Le XA fun b1 _=>Le AA fun b2 _=>Nl<|Ps<|Sq<|Rg<|Lv (Fa 3 96)<|Lv (Ld (v:= .slice sp a.ps.length sc))<|Le (CM [] fun w hw hs0=>clonePr_c a.ps sp sc hl.1 w (hw.slAt h1 (by simp[ids]))) fun so hso=>Lv (Fa 3 96)<|LeN (StS (h1:=V.ownV_one _ _)) fun _ _=>Nl<|Ps<|Sq<|Rg<|Lv (Fa 4 97)<|Lv (Ld (v:= .slice hp a.hs.length hc))<|Le (CM [] fun w hw hs0=>cloneBo_c a.hs hp hc hl.2 w (hw.slAt h2 (by simp[ids]))) fun ho hho=>Lv (Fa 4 97)<|LeN (StS (h1:=V.ownV_one _ _)) fun _ _=>Nl<|Ps<|Sq<|Rg<|Lv (Lw (l:=anC a so ho))<|LeN (StW (cs:=anC a so ho) (h1:=by simp only[anC,List.all_cons,List.all_nil,V.ownV_one,oneS,oneI,oneB,Bool.and_true])) fun _ _=>Nl<|Ps<|Rt<|PQ.retC (l:=anC a so ho) rfl rfl (by repeat(first|exact .here|exact .inner .here|exact .inner (.inner .here)|refine .there ?_)) Tryz.isAgg99 (by exact Tryz.sizeOf99) ?_
 intro w' hw;exact⟨(so,ho),⟨hso,hho⟩,rfl,hw.pick (by repeat(first|exact .nil|apply Pick.cons|exact .here|apply Ext.there))⟩
instance:Und Tryz.prog 101 (dOf Tryz.underlying101):=⟨Tryz.underlying101⟩
instance:Siz Tryz.prog 101 (kOf Tryz.sizeOf101):=⟨Tryz.sizeOf101⟩
instance:AgT Tryz.prog 101:=⟨Tryz.isAgg101⟩
instance:Zer Tryz.prog 101 (zOf Tryz.zeroValue101):=⟨Tryz.zeroValue101⟩
instance:Cal Tryz.prog 100:=⟨Tryz.call100⟩
instance:Cal Tryz.prog 290:=⟨Tryz.call290⟩
structure FrI where
 gz:List Kz
 gp:Option Addr
 gc:Nat
 bp:Option Addr
 bc:Nat
 pp:Option Addr
 pc:Nat
 sp:Option Addr
 sc:Nat
 hp:Option Addr
 hc:Nat
def fiC (f:Frm)(i:FrI):List Value:=klC f.c (.slice i.gp f.g.length i.gc)++([.int .i64 f.ph,.int .u64 f.ep,str f.pos,.bool f.past,.int .i64 f.lev,.bool f.had]++(lkC f.old++([.int .i64 f.line,.int .i64 f.cls,.int .i64 f.pc,.slice i.bp f.bs.length i.bc,.int .i64 f.at_,.slice i.pp f.pa.length i.pc]++[.int .i64 f.an.code,.bool f.an.fd,str f.an.val,.slice i.sp f.an.ps.length i.sc,.slice i.hp f.an.hs.length i.hc,.int .u64 f.an.ep])))
structure FiR (w:World)(f:Frm)(i:FrI):Prop where
 gz:i.gz.map Prod.fst=f.g
 g:V.slAt w i.gp 5 kzC i.gz
 b:V.slAt w i.bp 1 byE f.bs
 p:V.slAt w i.pp 8 ptC f.pa
 s:V.slAt w i.sp 2 prC f.an.ps
 h:V.slAt w i.hp 1 boC f.an.hs
structure FrSz (f:Frm):Prop where
 g:f.g.length≤3000
 b:f.bs.length≤10000
 p:f.pa.length≤1000
 s:f.an.ps.length≤10000
 h:f.an.hs.length≤1000
theorem fclone_g (f:Frm)(i:FrI)(hz:FrSz f)(w:World)(h:FiR w f i):Calls Tryz.prog 246 [.agg (fiC f i).toArray].toArray w fun e w'=>∃o:FrO,FrOk f o∧e= .returned (.agg (frC f o).toArray)∧Hp ⟨w,[]⟩ (frS f o) w':=by
 have hgl:i.gz.length=f.g.length:=by rw[← h.gz,List.length_map]
 obtain⟨hz1,hz2,hz3,hz4,hz5⟩:=hz
 refine V.calls [] Tryz.func246 rfl Tryz.ntmps246 (Nat.le_of_ble_eq_true rfl) (V.sat_nil _)<|Sq<|Rg<|Le XA fun b1 _=>Le AA fun b2 _=>Nl<|Ps<|Sq<|Rg<|Lv (Fa 0 91)<|Lv (La (klC f.c (.slice i.gp f.g.length i.gc)) (hl:=rfl))<|Le (CM [] fun w hw hs0=>(by have h8:=fcall_g f.c i.gz i.gp i.gc (by omega) w (hw.slAt h.g (by simp[ids]));rw[hgl] at h8;exact h8)) ?_
 rintro⟨gz,go⟩ ⟨hgz,hgo⟩
 simp only at hgz hgo⊢
 have hgl2:gz.length=f.g.length:=by have:=congrArg List.length hgz;simp at this;omega
 rw[hgl2]
 refine Lv (Fa 0 91)<|LeN (Eff.storeA (cs:=klC f.c (ownV f.g.length go)) (l:=((klC f.c (.slice i.gp f.g.length i.gc)++([.int .i64 f.ph,.int .u64 f.ep,str f.pos,.bool f.past,.int .i64 f.lev,.bool f.had]++(lkC f.old++([.int .i64 f.line,.int .i64 f.cls,.int .i64 f.pc,.slice i.bp f.bs.length i.bc,.int .i64 f.at_,.slice i.pp f.pa.length i.pc]++[.int .i64 f.an.code,.bool f.an.fd,str f.an.val,.slice i.sp f.an.ps.length i.sc,.slice i.hp f.an.hs.length i.hc,.int .u64 f.an.ep])))))) (l':=((klC f.c (ownV f.g.length go)++([.int .i64 f.ph,.int .u64 f.ep,str f.pos,.bool f.past,.int .i64 f.lev,.bool f.had]++(lkC f.old++([.int .i64 f.line,.int .i64 f.cls,.int .i64 f.pc,.slice i.bp f.bs.length i.bc,.int .i64 f.at_,.slice i.pp f.pa.length i.pc]++[.int .i64 f.an.code,.bool f.an.fd,str f.an.val,.slice i.sp f.an.ps.length i.sc,.slice i.hp f.an.hs.length i.hc,.int .u64 f.an.ep])))))) rfl rfl (by repeat(first|exact .here|exact .inner .here|exact .inner (.inner .here)|apply Upd.there)) (by rfl) (by simp[klC,anC,lkC]) Tryz.sizeOf91 (by simp only[klC,List.all_cons,List.all_nil,V.ownV_one,oneS,oneI,oneB,Bool.and_true])) fun _ _=>Nl<|Ps<|Sq<|Rg<|Lv (Fa 19 30)<|Lv (Ld (v:= .slice i.bp f.bs.length i.bc))<|Le (CM [] fun w hw hs0=>cloneB_c f.bs i.bp f.bs.length i.bc rfl (by omega) w (hw.slAt h.b (by simp[ids]))) fun bo hbo=>?_
 rw[← byC_flat] at*
 refine Lv (Fa 19 30)<|LeN (StS (h1:=V.ownV_one _ _)) fun _ _=>Nl<|Ps<|Sq<|Rg<|Lv (Fa 21 95)<|Lv (Ld (v:= .slice i.pp f.pa.length i.pc))<|Le (CM [] fun w hw hs0=>clonePt_c f.pa i.pp i.pc hz3 w (hw.slAt h.p (by simp[ids]))) fun po hpo=>Lv (Fa 21 95)<|LeN (StS (h1:=V.ownV_one _ _)) fun _ _=>Nl<|Ps<|Sq<|Rg<|Lv (Fa 22 99)<|Lv (La ([.int .i64 f.an.code,.bool f.an.fd,str f.an.val,.slice i.sp f.an.ps.length i.sc,.slice i.hp f.an.hs.length i.hc,.int .u64 f.an.ep]) (r:=[]) (hl:=rfl))<|Le (CM [] fun w hw hs0=>fans_g f.an i.sp i.hp i.sc i.hc ⟨by omega,by omega⟩ w (hw.slAt h.s (by simp[ids])) (hw.slAt h.h (by simp[ids]))) ?_
 rintro⟨so,ho⟩ ⟨hso,hho⟩
 simp only at hso hho⊢
 refine Lv (Fa 22 99)<|LeN (Eff.storeA (cs:=anC f.an so ho) (l:=((klC f.c (ownV f.g.length go)++([.int .i64 f.ph,.int .u64 f.ep,str f.pos,.bool f.past,.int .i64 f.lev,.bool f.had]++(lkC f.old++([.int .i64 f.line,.int .i64 f.cls,.int .i64 f.pc,ownV f.bs.length bo,.int .i64 f.at_,ownV f.pa.length po]++[.int .i64 f.an.code,.bool f.an.fd,str f.an.val,.slice i.sp f.an.ps.length i.sc,.slice i.hp f.an.hs.length i.hc,.int .u64 f.an.ep])))))) (l':=frC f ⟨gz,go,bo,po,so,ho⟩) rfl rfl (by repeat(first|exact .here|exact .inner .here|exact .inner (.inner .here)|apply Upd.there)) (by rfl) (by simp[klC,anC,lkC]) Tryz.sizeOf99 (by simp only[anC,List.all_cons,List.all_nil,V.ownV_one,oneS,oneI,oneB,Bool.and_true])) fun _ _=>Nl<|Ps<|Sq<|Rg<|Lv (Lw (l:=frC f ⟨gz,go,bo,po,so,ho⟩))<|LeN (StW (cs:=frC f ⟨gz,go,bo,po,so,ho⟩) (h1:=by simp only[frC,klC,anC,lkC,List.cons_append,List.nil_append,List.all_append,List.all_cons,List.all_nil,V.ownV_one,oneS,oneI,oneB,Bool.and_true])) fun _ _=>Nl<|Ps<|Rt<|PQ.retC (l:=frC f ⟨gz,go,bo,po,so,ho⟩) rfl rfl (by repeat(first|exact .here|exact .inner .here|exact .inner (.inner .here)|refine .there ?_)) Tryz.isAgg101 (by exact Tryz.sizeOf101) ?_
 intro w' hw;exact⟨⟨gz,go,bo,po,so,ho⟩,⟨hgz.trans h.gz,hgo,hbo,hpo,hso,hho⟩,rfl,hw.pick (by repeat(first|exact .nil|apply Pick.cons|exact .here|apply Ext.there))⟩
instance:Cal Tryz.prog 429:=⟨Tryz.call429⟩
instance:Cal Tryz.prog 430:=⟨Tryz.call430⟩
instance:Cal Tryz.prog 456:=⟨Tryz.call456⟩
instance:Cal Tryz.prog 457:=⟨Tryz.call457⟩
instance:Cal Tryz.prog 458:=⟨Tryz.call458⟩
instance:Cal Tryz.prog 470:=⟨Tryz.call470⟩
def keyB (k:Int):Bool:=decide (k=1∨k=2∨k=3)
def grpB (k:Int):Bool:=decide (k=2∨k=3∨k=4)
def noKey (y:Kal):Bool:=keyB y.k&&decide (y.key=[])
def kClash (y z:Kal):Bool:=keyB y.k&&keyB z.k&&decide (y.key=z.key)
def subOne (pre:List Kal)(y:Kal):Bool:=grpB y.k&& !noKey y&& !pre.any (kClash y)
def shapeK (c:Kal)(g:List Kal):Bool:= !(decide (c.k<1∨8<c.k)||noKey c)&&(decide (c.k≠7)||decide (1≤g.length∧g.length≤3)&&allPre subOne [] g)
def long1 (x:Kal):Bool:=if x.k=1∨x.k=3 then decide (16<x.key.length) else if x.k=2 then decide (16<x.key.length)||decide (400<x.val.length) else if x.k=4 then decide (400<x.val.length) else if x.k=6 then decide (16<x.key.length)||decide (16<x.tu.length) else false
def longK (c:Kal)(g:List Kal):Bool:=if c.k=7 then g.any long1 else long1 c
def goodK (c:Kal)(g:List Kal):Int:=if shapeK c g=true then(if longK c g=true then 5 else 0) else 1
theorem keyed_c (k:Int)(w:World):Calls Tryz.prog 456 [.int .i64 k].toArray w fun e w'=>e= .returned (.bool (keyB k))∧Below w.heap.size w w':=by
 refine V.calls [] Tryz.func456 rfl Tryz.ntmps456 (Nat.le_of_ble_eq_true rfl) (V.sat_nil _)<|Sq<|Rg<|Lv Av<|Nl<|Ps<|Sq<|Rg<|Lv Mv<|Lv Cm<|Lv Mv ?_
 refine LW.split (d:=5) rfl (fun h5=>?_) (fun h5=>?_)
 ·replace h5:=bT h5
  refine Lp<|Lp<|Lv Pt<|Lv Mv<|Lp<|Lp<|Lv Pt<|Lv Av<|Nl<|Ps<|Rt<|Rt1 ?_
  intro w' hw;exact⟨by unfold keyB;congr 2;first|(simp_all;done)|(rw[Bool.eq_iff_iff];simp only[beq_iff_eq,decide_eq_true_eq];omega),hw.below⟩
 ·replace h5:=bF h5
  refine Lv Mv<|Lv Cm<|Lv Pf<|Lv Mv ?_
  refine LW.split (d:=9) rfl (fun h9=>?_) (fun h9=>?_)
  ·replace h9:=bT h9
   refine Lp<|Lp<|Lv Pt<|Lv Av<|Nl<|Ps<|Rt<|Rt1 ?_
   intro w' hw;exact⟨by unfold keyB;congr 2;first|(simp_all;done)|(rw[Bool.eq_iff_iff];simp only[beq_iff_eq,decide_eq_true_eq];omega),hw.below⟩
  ·replace h9:=bF h9
   refine Lv Mv<|Lv Cm<|Lv Pf<|Lv Av<|Nl<|Ps<|Rt<|Rt1 ?_
   intro w' hw;exact⟨by unfold keyB;congr 2;first|(simp_all;done)|(rw[Bool.eq_iff_iff];simp only[beq_iff_eq,decide_eq_true_eq];omega),hw.below⟩
theorem grouped_c (k:Int)(w:World):Calls Tryz.prog 457 [.int .i64 k].toArray w fun e w'=>e= .returned (.bool (grpB k))∧Below w.heap.size w w':=by
 refine V.calls [] Tryz.func457 rfl Tryz.ntmps457 (Nat.le_of_ble_eq_true rfl) (V.sat_nil _)<|Sq<|Rg<|Lv Av<|Nl<|Ps<|Sq<|Rg<|Lv Mv<|Lv Cm<|Lv Mv ?_
 refine LW.split (d:=5) rfl (fun h5=>?_) (fun h5=>?_)
 ·replace h5:=bT h5
  refine Lp<|Lp<|Lv Pt<|Lv Mv<|Lp<|Lp<|Lv Pt<|Lv Av<|Nl<|Ps<|Rt<|Rt1 ?_
  intro w' hw;exact⟨by unfold grpB;congr 2;first|(simp_all;done)|(rw[Bool.eq_iff_iff];simp only[beq_iff_eq,decide_eq_true_eq];omega),hw.below⟩
 ·replace h5:=bF h5
  refine Lv Mv<|Lv Cm<|Lv Pf<|Lv Mv ?_
  refine LW.split (d:=9) rfl (fun h9=>?_) (fun h9=>?_)
  ·replace h9:=bT h9
   refine Lp<|Lp<|Lv Pt<|Lv Av<|Nl<|Ps<|Rt<|Rt1 ?_
   intro w' hw;exact⟨by unfold grpB;congr 2;first|(simp_all;done)|(rw[Bool.eq_iff_iff];simp only[beq_iff_eq,decide_eq_true_eq];omega),hw.below⟩
  ·replace h9:=bF h9
   refine Lv Mv<|Lv Cm<|Lv Pf<|Lv Av<|Nl<|Ps<|Rt<|Rt1 ?_
   intro w' hw;exact⟨by unfold grpB;congr 2;first|(simp_all;done)|(rw[Bool.eq_iff_iff];simp only[beq_iff_eq,decide_eq_true_eq];omega),hw.below⟩
theorem any_take2 {α:Type}{g:α→Bool}{l:List α}{i:Nat}{y:α}(h:l[i]? =some y):(l.take (i+1)).any g=((l.take i).any g||g y):=by
 rw[List.take_add_one,h,Option.toList_some,List.any_append]
 simp
theorem shapeK_c (c:Kal)(gl:List Kz)(gp:Option Addr)(gc:Nat)(hl:gl.length≤gc∧gl.length≤3000)(w:World)(h:V.slAt w gp 5 kzC gl):Calls Tryz.prog 429 [.agg (klC c (.slice gp gl.length gc)).toArray].toArray w fun e w'=>e= .returned (.bool (shapeK c (gl.map Prod.fst)))∧Below w.heap.size w w':=by
 refine V.calls [] Tryz.func429 rfl Tryz.ntmps429 (Nat.le_of_ble_eq_true rfl) (V.sat_nil _)<|Sq<|Rg<|Le XA fun b1 _=>Lv Av<|Nl<|Ps<|Sq<|Sq ?_
 refine CW.regJoin (fun _:Unit=>True) (fun _=>[(1,.pointer (some ⟨b1,0,none⟩)),(24,.bool ((decide (c.k<1∨8<c.k)||noKey c)))]) (fun _=>[[(b1,.cells (klC c (.slice gp gl.length gc)).toArray 91 (0,0))]]) ?_ ?_
 ·refine Rg<|Lv (Fa 0 3)<|Lv (Ld (v:= .int .i64 c.k))<|Lv Cm<|Lv Mv ?_
  refine LW.split (d:=10) rfl (fun h10=>?_) (fun h10=>?_)
  ·replace h10:=bT h10
   refine Lp<|Lp<|Lp<|Lv Pt<|Lv Mv<|Lp<|Lp<|Lp<|Lp<|Lp<|Lp<|Lp<|Lp<|Lv Pt<|Nl ?_
   refine PQ.joined (()) (trivial) (by exact⟨rfl,congrArg (fun b=>some (Value.bool b)) (by unfold noKey;first|exact(decide_eq_true (by omega)).symm|(rw[decide_eq_decide];omega)|(simp_all;done)|(simp_all;omega)|(rw[Bool.eq_iff_iff];simp_all;omega)),trivial⟩) (by repeat(first|exact .nil|apply Pick.cons|exact .here|apply Ext.there))
  ·replace h10:=bF h10
   refine Lv (Fa 0 3)<|Lv (Ld (v:= .int .i64 c.k))<|Lv Cm<|Lv Pf<|Lv Mv ?_
   refine LW.split (d:=15) rfl (fun h15=>?_) (fun h15=>?_)
   ·replace h15:=bT h15
    refine Lp<|Lp<|Lp<|Lp<|Lp<|Lp<|Lp<|Lp<|Lv Pt<|Nl ?_
    refine PQ.joined (()) (trivial) (by exact⟨rfl,congrArg (fun b=>some (Value.bool b)) (by unfold noKey;first|exact(decide_eq_true (by omega)).symm|(rw[decide_eq_decide];omega)|(simp_all;done)|(simp_all;omega)|(rw[Bool.eq_iff_iff];simp_all;omega)),trivial⟩) (by repeat(first|exact .nil|apply Pick.cons|exact .here|apply Ext.there))
   ·replace h15:=bF h15
    refine Lv (Fa 0 3)<|Lv (Ld (v:= .int .i64 c.k))<|Le (CV fun w hw=>keyed_c _ w) fun _ _=>Lv Mv ?_
    refine LW.split (d:=19) rfl (fun h19=>?_) (fun h19=>?_)
    ·replace h19:=bT h19
     refine Lv (Fa 1 9)<|Lv (Ld (v:=str c.key))<|Lv ES<|Lv Pt<|Lv Pf<|Nl ?_
     refine PQ.joined (()) (trivial) (by exact⟨rfl,congrArg (fun b=>some (Value.bool b)) (by unfold noKey;first|exact(decide_eq_true (by omega)).symm|(rw[decide_eq_decide];omega)|(simp_all;done)|(simp_all;omega)|(rw[Bool.eq_iff_iff];simp_all;omega)),trivial⟩) (by repeat(first|exact .nil|apply Pick.cons|exact .here|apply Ext.there))
    ·replace h19:=bF h19
     refine Lp<|Lp<|Lp<|Lv Pf<|Lv Pf<|Nl ?_
     refine PQ.joined (()) (trivial) (by exact⟨rfl,congrArg (fun b=>some (Value.bool b)) (by unfold noKey;first|exact(decide_eq_true (by omega)).symm|(rw[decide_eq_decide];omega)|(simp_all;done)|(simp_all;omega)|(rw[Bool.eq_iff_iff];simp_all;omega)),trivial⟩) (by repeat(first|exact .nil|apply Pick.cons|exact .here|apply Ext.there))
 ·intro _ _
  refine Ps ?_
  refine CW.cond rfl (fun h24=>?_) (fun h24=>?_)
  ·replace h24:=bT h24
   have h24:(decide (c.k<1∨8<c.k)||noKey c)=true:=h24
   refine Sq<|Rg<|Lv Av<|Nl<|Ps<|Rt<|Tr<|Rt1 ?_
   have e1:shapeK c (gl.map Prod.fst)=false:=by unfold shapeK;rw[h24];rfl
   rw[e1]
   intro w' hw;exact⟨rfl,hw.below⟩
  ·replace h24:=bF h24
   have h24:(decide (c.k<1∨8<c.k)||noKey c)=false:=by rw[decide_eq_false h24.1,h24.2];rfl
   have hsh0:(!(decide (c.k<1∨8<c.k)||noKey c))=true:=by rw[h24];rfl
   refine Sk<|Ps<|Sq<|Sq<|Rg<|Lv (Fa 0 3)<|Lv (Ld (v:= .int .i64 c.k))<|Lv Cm<|Nl<|Ps ?_
   refine CW.cond rfl (fun h27=>?_) (fun h27=>?_)
   ·replace h27:=bT h27
    have h27:c.k≠7:=h27
    refine Sq<|Rg<|Lv Av<|Nl<|Ps<|Rt<|Tr<|Rt1 ?_
    have e1:shapeK c (gl.map Prod.fst)=true:=by unfold shapeK;rw[hsh0,decide_eq_true h27];rfl
    rw[e1]
    intro w' hw;exact⟨rfl,hw.below⟩
   ·replace h27:=bF h27
    have h27:c.k=7:=h27
    refine Sk<|Ps<|Sq<|Sq ?_
    refine CW.regJoin (fun _:Unit=>True) (fun _=>[(1,.pointer (some ⟨b1,0,none⟩)),(37,.bool (decide (gl.length<1∨3<gl.length)))]) (fun _=>[[(b1,.cells (klC c (.slice gp gl.length gc)).toArray 91 (0,0))]]) ?_ ?_
    ·refine Rg<|Lv (Fa 4 89)<|Lv Ld<|Lv Ln<|Lv Cm<|Lv Mv ?_
     refine LW.split (d:=32) rfl (fun h32=>?_) (fun h32=>?_)
     ·replace h32:=bT h32
      refine Lp<|Lp<|Lp<|Lp<|Lv Pt<|Nl ?_
      refine PQ.joined (()) (trivial) (by exact⟨rfl,congrArg (fun b=>some (Value.bool b)) (by first|exact(decide_eq_true (by omega)).symm|(rw[decide_eq_decide];omega)|(simp_all;done)|(simp_all;omega)|(rw[Bool.eq_iff_iff];simp_all;omega)),trivial⟩) (by repeat(first|exact .nil|apply Pick.cons|exact .here|apply Ext.there))
     ·replace h32:=bF h32
      refine Lv (Fa 4 89)<|Lv Ld<|Lv Ln<|Lv Cm<|Lv Pf<|Nl ?_
      refine PQ.joined (()) (trivial) (by exact⟨rfl,congrArg (fun b=>some (Value.bool b)) (by first|exact(decide_eq_true (by omega)).symm|(rw[decide_eq_decide];omega)|(simp_all;done)|(simp_all;omega)|(rw[Bool.eq_iff_iff];simp_all;omega)),trivial⟩) (by repeat(first|exact .nil|apply Pick.cons|exact .here|apply Ext.there))
    ·intro _ _
     refine Ps ?_
     refine CW.cond rfl (fun h37=>?_) (fun h37=>?_)
     ·replace h37:=bT h37
      have h37:((gl.length:Nat):Int)<1∨3<gl.length:=by omega
      refine Sq<|Rg<|Lv Av<|Nl<|Ps<|Rt<|Tr<|Rt1 ?_
      have e1:shapeK c (gl.map Prod.fst)=false:=by unfold shapeK;rw[decide_eq_false (show ¬(1≤((gl.map Prod.fst)).length∧((gl.map Prod.fst)).length≤3) by rw[List.length_map];omega)];simp[h27]
      rw[e1]
      intro w' hw;exact⟨rfl,hw.below⟩
     ·replace h37:=bF h37
      have h37:¬(gl.length<1∨3<gl.length):=h37
      refine Sk<|Ps<|Sq<|Sq<|Rg<|Lv (Fa 4 89)<|Lv Ld<|Lv Ln<|Lv Mv<|Nl<|Ps<|Bk<|loopA (γ:=Nat) (fun k=>[(1,.pointer (some ⟨b1,0,none⟩)),(39,.slice gp gl.length gc),(40,.int .i64 (gl.length:Nat)),(41,.int .i64 (k:Nat))]) (fun _=>[[(b1,.cells (klC c (.slice gp gl.length gc)).toArray 91 (0,0))]]) (fun k=>k≤gl.length∧allPre subOne [] (gl.map Prod.fst)=allPre subOne ((gl.map Prod.fst).take k) ((gl.map Prod.fst).drop k)) (fun k=>gl.length-k) (0) ⟨Nat.zero_le _,rfl⟩ fun k=>?_
      rintro⟨hk1,hk2⟩
      refine Sq<|Rg<|Lv Cm<|Nl<|Ps<|Sq ?_
      refine CW.cond rfl (fun h42=>?_) (fun h42=>?_)
      ·replace h42:=bT h42
       obtain⟨bb1,o1,y,rfl,hb1,hx1,hr1⟩:=V.slAt_at h rfl (k:=k) (by omega)
       have hym:((gl.map Prod.fst))[k]? =some y.1:=by rw[List.getElem?_map,hx1];rfl
       have hst:=allPre_step (f:=subOne) hym
       refine Sk<|Ps<|Sq<|Bk<|Sq<|Rg<|Lv Mv<|Lv Ix<|Lv (Val.loadOA (cs:=kzC y) rfl Tryz.isAgg91 hb1 (by simp[ids]) (hr1 (k) _ hx1) Tryz.sizeOf91)<|Le AA fun b4 _=>Lv Av<|LeN (StW (cs:=kzC y)) fun _ _=>Nl<|Ps<|Sq<|Sq ?_
       refine CW.regJoin (fun _:Unit=>True) (fun _=>[(1,.pointer (some ⟨b1,0,none⟩)),(3,.int .i64 (k:Nat)),(4,.pointer (some ⟨b4,0,none⟩)),(39,.slice (some ⟨bb1,o1,none⟩) gl.length gc),(40,.int .i64 (gl.length:Nat)),(41,.int .i64 (k:Nat)),(59,.bool ((!grpB y.1.k||noKey y.1)))]) (fun _=>[[(b1,.cells (klC c (.slice (some ⟨bb1,o1,none⟩) gl.length gc)).toArray 91 (0,0))],[(b4,.cells (kzC y).toArray 91 (0,0))]]) ?_ ?_
       ·refine Rg<|Lv (Fa 0 3)<|Lv (Ld (v:= .int .i64 y.1.k))<|Le (CV fun w hw=>grouped_c _ w) fun _ _=>Lv Nt<|Lv Mv ?_
        refine LW.split (d:=50) rfl (fun h50=>?_) (fun h50=>?_)
        ·replace h50:=bT h50
         refine Lp<|Lp<|Lp<|Lp<|Lp<|Lp<|Lp<|Lp<|Lv Pt<|Nl ?_
         refine PQ.joined (()) (trivial) (by exact⟨rfl,rfl,rfl,rfl,rfl,rfl,congrArg (fun b=>some (Value.bool b)) (by unfold noKey;first|exact(decide_eq_true (by omega)).symm|(rw[decide_eq_decide];omega)|(simp_all;done)|(simp_all;omega)|(rw[Bool.eq_iff_iff];simp_all;omega)),trivial⟩) (by repeat(first|exact .nil|apply Pick.cons|exact .here|apply Ext.there))
        ·replace h50:=bF h50
         refine Lv (Fa 0 3)<|Lv (Ld (v:= .int .i64 y.1.k))<|Le (CV fun w hw=>keyed_c _ w) fun _ _=>Lv Mv ?_
         refine LW.split (d:=54) rfl (fun h54=>?_) (fun h54=>?_)
         ·replace h54:=bT h54
          refine Lv (Fa 1 9)<|Lv (Ld (v:=str y.1.key))<|Lv ES<|Lv Pt<|Lv Pf<|Nl ?_
          refine PQ.joined (()) (trivial) (by exact⟨rfl,rfl,rfl,rfl,rfl,rfl,congrArg (fun b=>some (Value.bool b)) (by unfold noKey;first|exact(decide_eq_true (by omega)).symm|(rw[decide_eq_decide];omega)|(simp_all;done)|(simp_all;omega)|(rw[Bool.eq_iff_iff];simp_all;omega)),trivial⟩) (by repeat(first|exact .nil|apply Pick.cons|exact .here|apply Ext.there))
         ·replace h54:=bF h54
          refine Lp<|Lp<|Lp<|Lv Pf<|Lv Pf<|Nl ?_
          refine PQ.joined (()) (trivial) (by exact⟨rfl,rfl,rfl,rfl,rfl,rfl,congrArg (fun b=>some (Value.bool b)) (by unfold noKey;first|exact(decide_eq_true (by omega)).symm|(rw[decide_eq_decide];omega)|(simp_all;done)|(simp_all;omega)|(rw[Bool.eq_iff_iff];simp_all;omega)),trivial⟩) (by repeat(first|exact .nil|apply Pick.cons|exact .here|apply Ext.there))
       ·intro _ _
        refine Ps ?_
        refine CW.cond rfl (fun h59=>?_) (fun h59=>?_)
        ·replace h59:=bT h59
         refine Sq<|Rg<|Lv Av<|Nl<|Ps<|Rt<|Tr<|Br<|Tr<|Tr<|Br<|Tr<|Rt1 ?_
         have e2:subOne (((gl.map Prod.fst)).take k) y.1=false:=by unfold subOne;have h8:(!grpB y.1.k||noKey y.1)=true:=h59;cases h7:grpB y.1.k<;>simp_all
         have e1:shapeK c (gl.map Prod.fst)=false:=by unfold shapeK;rw[hk2,hst,e2];simp only[Bool.and_eq_false_iff];right;simp[h27]
         rw[e1]
         intro w' hw;exact⟨rfl,hw.below⟩
        ·replace h59:=bF h59
         refine Sk<|Ps<|Sq<|Rg<|Lv (Fa 4 89)<|Lv Ld<|Lv Mv<|Lv (Val.slice 0 k gc rfl Tryz.underlying89 Tryz.sizeOf91 rfl ⟨_,rfl⟩ rfl (fun h=>by cases h) (by omega) (by omega) (by omega))<|LW.re 63 (.slice (some ⟨bb1,o1,none⟩) k gc) rfl (by simp)<|Lv Ln<|Lv Mv<|Nl<|Ps<|Bk<|loopA (γ:=Nat) (fun j=>[(1,.pointer (some ⟨b1,0,none⟩)),(3,.int .i64 (k:Nat)),(4,.pointer (some ⟨b4,0,none⟩)),(39,.slice (some ⟨bb1,o1,none⟩) gl.length gc),(40,.int .i64 (gl.length:Nat)),(41,.int .i64 (k:Nat)),(63,.slice (some ⟨bb1,o1,none⟩) k gc),(64,.int .i64 (k:Nat)),(65,.int .i64 (j:Nat))]) (fun _=>[[(b1,.cells (klC c (.slice (some ⟨bb1,o1,none⟩) gl.length gc)).toArray 91 (0,0))],[(b4,.cells (kzC y).toArray 91 (0,0))]]) (fun j=>j≤k∧((gl.map Prod.fst).take j).any (kClash y.1)=false) (fun j=>k-j) (0) ⟨Nat.zero_le _,rfl⟩ fun j=>?_
         rintro⟨hj1,hj2⟩
         refine Sq<|Rg<|Lv Cm<|Nl<|Ps<|Sq ?_
         refine CW.cond rfl (fun h66=>?_) (fun h66=>?_)
         ·replace h66:=bT h66
          obtain⟨z,hz⟩:∃z,gl[j]? =some z:=⟨gl[j]'(by omega),by simp⟩
          have hzm:((gl.map Prod.fst))[j]? =some z.1:=by rw[List.getElem?_map,hz];rfl
          refine Sk<|Ps<|Sq<|Bk<|Sq<|Rg<|Lv Ix<|Lv (Val.loadOA (cs:=kzC z) rfl Tryz.isAgg91 hb1 (by simp[ids]) (hr1 (j) _ hz) Tryz.sizeOf91)<|Le AA fun b6 _=>LeN (StW (cs:=kzC z)) fun _ _=>Nl<|Ps<|Sq ?_
          refine CW.regJoin (fun _:Unit=>True) (fun _=>[(1,.pointer (some ⟨b1,0,none⟩)),(3,.int .i64 (k:Nat)),(4,.pointer (some ⟨b4,0,none⟩)),(39,.slice (some ⟨bb1,o1,none⟩) gl.length gc),(40,.int .i64 (gl.length:Nat)),(41,.int .i64 (k:Nat)),(63,.slice (some ⟨bb1,o1,none⟩) k gc),(64,.int .i64 (k:Nat)),(65,.int .i64 (j:Nat)),(83,.bool (kClash y.1 z.1))]) (fun _=>[[(b1,.cells (klC c (.slice (some ⟨bb1,o1,none⟩) gl.length gc)).toArray 91 (0,0))],[(b4,.cells (kzC y).toArray 91 (0,0))]]) ?_ ?_
          ·refine Rg<|Lv (Fa 0 3)<|Lv (Ld (v:= .int .i64 y.1.k))<|Le (CV fun w hw=>keyed_c _ w) fun _ _=>Lv Mv ?_
           refine LW.split (d:=72) rfl (fun h72=>?_) (fun h72=>?_)
           ·replace h72:=bT h72
            refine Lv (Fa 0 3)<|Lv (Ld (v:= .int .i64 z.1.k))<|Le (CV fun w hw=>keyed_c _ w) fun _ _=>Lv Pt<|Lv Mv ?_
            refine LW.split (d:=77) rfl (fun h77=>?_) (fun h77=>?_)
            ·replace h77:=bT h77
             refine Lv (Fa 1 9)<|Lv (Ld (v:=str y.1.key))<|Lv (Fa 1 9)<|Lv (Ld (v:=str z.1.key))<|Lv ES<|Lv Pt<|Nl ?_
             refine PQ.joined (()) (trivial) (by exact⟨rfl,rfl,rfl,rfl,rfl,rfl,rfl,rfl,rfl,congrArg (fun b=>some (Value.bool b)) (by unfold kClash;first|exact(decide_eq_true (by omega)).symm|(rw[decide_eq_decide];omega)|(simp_all;done)|(simp_all;omega)|(rw[Bool.eq_iff_iff];simp_all;omega)),trivial⟩) (by repeat(first|exact .nil|apply Pick.cons|exact .here|apply Ext.there))
            ·replace h77:=bF h77
             refine Lp<|Lp<|Lp<|Lp<|Lp<|Lv Pf<|Nl ?_
             refine PQ.joined (()) (trivial) (by exact⟨rfl,rfl,rfl,rfl,rfl,rfl,rfl,rfl,rfl,congrArg (fun b=>some (Value.bool b)) (by unfold kClash;first|exact(decide_eq_true (by omega)).symm|(rw[decide_eq_decide];omega)|(simp_all;done)|(simp_all;omega)|(rw[Bool.eq_iff_iff];simp_all;omega)),trivial⟩) (by repeat(first|exact .nil|apply Pick.cons|exact .here|apply Ext.there))
           ·replace h72:=bF h72
            refine Lp<|Lp<|Lp<|Lv Pf<|Lv Mv<|Lp<|Lp<|Lp<|Lp<|Lp<|Lv Pf<|Nl ?_
            refine PQ.joined (()) (trivial) (by exact⟨rfl,rfl,rfl,rfl,rfl,rfl,rfl,rfl,rfl,congrArg (fun b=>some (Value.bool b)) (by unfold kClash;first|exact(decide_eq_true (by omega)).symm|(rw[decide_eq_decide];omega)|(simp_all;done)|(simp_all;omega)|(rw[Bool.eq_iff_iff];simp_all;omega)),trivial⟩) (by repeat(first|exact .nil|apply Pick.cons|exact .here|apply Ext.there))
          ·intro _ _
           refine Ps ?_
           refine CW.cond rfl (fun h83=>?_) (fun h83=>?_)
           ·replace h83:=bT h83
            refine Sq<|Rg<|Lv Av<|Nl<|Ps<|Rt<|Br<|Tr<|Tr<|Br<|Br<|Tr<|Tr<|Br<|Tr<|Rt1 ?_
            have e2:subOne (((gl.map Prod.fst)).take k) y.1=false:=by unfold subOne;rw[show(((gl.map Prod.fst)).take k).any (kClash y.1)=true from List.any_eq_true.2 ⟨z.1,List.mem_of_getElem? (i:=j) (by rw[List.getElem?_take_of_lt (by omega),List.getElem?_map,hz];rfl),h83⟩];simp
            have e1:shapeK c (gl.map Prod.fst)=false:=by unfold shapeK;rw[hk2,hst,e2];simp only[Bool.and_eq_false_iff];right;simp[h27]
            rw[e1]
            intro w' hw;exact⟨rfl,hw.below⟩
           ·replace h83:=bF h83
            refine Sk<|Bn<|Ps<|Rg<|Lv Ar<|Lv Mv<|Nl ?_
            exact roundA (j+1) ⟨by omega,by rw[any_take2 hzm,hj2,Bool.false_or];exact h83⟩ (by omega)
         ·replace h66:=bF h66
          refine Xt<|Te<|Te<|Bh<|Bn<|Ps<|Rg<|Lv Ar<|Lv Mv<|Nl ?_
          refine PQ.round (k+1) ⟨by omega,by
           obtain rfl:j=k:=by omega
           have e2:subOne (((gl.map Prod.fst)).take j) y.1=true:=by
            have h8:(!grpB y.1.k||noKey y.1)=false:=by rw[h59.1,h59.2];rfl
            unfold subOne;rw[hj2];cases h7:grpB y.1.k<;>simp_all
           rw[hk2,hst,e2,Bool.true_and]⟩ (by omega) (by repeat(first|exact trivial|refine⟨rfl,?_⟩)) (by repeat(first|exact .nil|apply Pick.cons|exact .here|apply Ext.there))
      ·replace h42:=bF h42
       refine Xt<|Te<|Te<|Bh<|Ps<|Sq<|Rg<|Lv Av<|Nl<|Ps<|Rt<|Rt1 ?_
       have e1:shapeK c (gl.map Prod.fst)=true:=by
        unfold shapeK
        rw[hk2,List.drop_of_length_le (by rw[List.length_map];omega)]
        simp only[allPre,Bool.and_true,List.length_map]
        rw[hsh0,decide_eq_true (show 1≤gl.length∧gl.length≤3 by omega)];simp
       rw[e1]
       intro w' hw;exact⟨rfl,hw.below⟩
theorem long1_c (c:Kal)(g:Value)(hg:g.oneCell'=true)(hk:c.k≠7)(w:World):Calls Tryz.prog 430 [.agg (klC c g).toArray].toArray w fun e w'=>e= .returned (.bool (long1 c))∧Below w.heap.size w w':=by
 refine V.calls [] Tryz.func430 rfl Tryz.ntmps430 (Nat.le_of_ble_eq_true rfl) (V.sat_nil _)<|Sq<|Rg<|Le XA fun b1 _=>Lv Av<|Nl<|Ps<|Sq<|Sq<|Rg<|Lv (Fa 0 3)<|Lv (Ld (v:= .int .i64 c.k))<|Nl<|Ps<|Bk<|Sq<|Sq<|Rg<|Lv Cm<|Lv Av ?_
 refine LW.split (d:=5) rfl (fun h5=>?_) (fun h5=>?_)
 ·replace h5:=bT h5
  refine Nl<|Ps<|Ct<|Sk<|Ps<|Ct<|Sq<|Rg<|Lv (Fa 1 9)<|Lv (Ld (v:=str c.key))<|Lv LnS<|Lv Cm<|Lv Av<|Nl<|Ps<|Rt<|Br<|Tr<|Rt1 ?_
  intro w' hw;exact⟨by unfold long1;first|(simp_all;done)|(simp_all;omega)|(congr 2;rw[Bool.eq_iff_iff];simp_all;omega),hw.below⟩
 ·replace h5:=bF h5
  refine Nl<|Ps<|Cf<|Rg<|Lv Cm<|Lv Av ?_
  refine LW.split (d:=5) rfl (fun h5=>?_) (fun h5=>?_)
  ·replace h5:=bT h5
   refine Nl<|Ps<|Ct<|Sq<|Rg<|Lv (Fa 1 9)<|Lv (Ld (v:=str c.key))<|Lv LnS<|Lv Cm<|Lv Av<|Nl<|Ps<|Rt<|Br<|Tr<|Rt1 ?_
   intro w' hw;exact⟨by unfold long1;first|(simp_all;done)|(simp_all;omega)|(congr 2;rw[Bool.eq_iff_iff];simp_all;omega),hw.below⟩
  ·replace h5:=bF h5
   refine Nl<|Ps<|Cf<|Sq<|Rg<|Lv Cm<|Lv Av<|Nl<|Ps ?_
   refine CW.cond rfl (fun h12=>?_) (fun h12=>?_)
   ·replace h12:=bT h12
    have h12:c.k=2:=h12
    refine Sq<|Rg<|Lv (Fa 1 9)<|Lv (Ld (v:=str c.key))<|Lv LnS<|Lv Cm<|Lv Mv ?_
    refine LW.split (d:=18) rfl (fun h18=>?_) (fun h18=>?_)
    ·replace h18:=bT h18
     refine Lp<|Lp<|Lp<|Lp<|Lv Pt<|Lv Av<|Nl<|Ps<|Rt<|Br<|Tr<|Rt1 ?_
     intro w' hw;exact⟨by unfold long1;first|(simp_all;done)|(simp_all;omega)|(congr 2;rw[Bool.eq_iff_iff];simp_all;omega),hw.below⟩
    ·replace h18:=bF h18
     refine Lv (Fa 2 9)<|Lv (Ld (v:=str c.val))<|Lv LnS<|Lv Cm<|Lv Pf<|Lv Av<|Nl<|Ps<|Rt<|Br<|Tr<|Rt1 ?_
     intro w' hw;exact⟨by unfold long1;first|(simp_all;done)|(simp_all;omega)|(congr 2;rw[Bool.eq_iff_iff];simp_all;omega),hw.below⟩
   ·replace h12:=bF h12
    have h12:c.k≠2:=h12
    refine Sq<|Rg<|Lv Cm<|Lv Av<|Nl<|Ps ?_
    refine CW.cond rfl (fun h24=>?_) (fun h24=>?_)
    ·replace h24:=bT h24
     have h24:c.k=4:=h24
     refine Sq<|Rg<|Lv (Fa 2 9)<|Lv (Ld (v:=str c.val))<|Lv LnS<|Lv Cm<|Lv Av<|Nl<|Ps<|Rt<|Br<|Tr<|Rt1 ?_
     intro w' hw;exact⟨by unfold long1;first|(simp_all;done)|(simp_all;omega)|(congr 2;rw[Bool.eq_iff_iff];simp_all;omega),hw.below⟩
    ·replace h24:=bF h24
     have h24:c.k≠4:=h24
     refine Sq<|Rg<|Lv Cm<|Lv Av<|Nl<|Ps ?_
     refine CW.cond rfl (fun h30=>?_) (fun h30=>?_)
     ·replace h30:=bT h30
      have h30:c.k=6:=h30
      refine Sq<|Rg<|Lv (Fa 1 9)<|Lv (Ld (v:=str c.key))<|Lv LnS<|Lv Cm<|Lv Mv ?_
      refine LW.split (d:=36) rfl (fun h36=>?_) (fun h36=>?_)
      ·replace h36:=bT h36
       refine Lp<|Lp<|Lp<|Lp<|Lv Pt<|Lv Av<|Nl<|Ps<|Rt<|Br<|Tr<|Rt1 ?_
       intro w' hw;exact⟨by unfold long1;first|(simp_all;done)|(simp_all;omega)|(congr 2;rw[Bool.eq_iff_iff];simp_all;omega),hw.below⟩
      ·replace h36:=bF h36
       refine Lv (Fa 3 9)<|Lv (Ld (v:=str c.tu))<|Lv LnS<|Lv Cm<|Lv Pf<|Lv Av<|Nl<|Ps<|Rt<|Br<|Tr<|Rt1 ?_
       intro w' hw;exact⟨by unfold long1;first|(simp_all;done)|(simp_all;omega)|(congr 2;rw[Bool.eq_iff_iff];simp_all;omega),hw.below⟩
     ·replace h30:=bF h30
      have h30:c.k≠6:=h30
      refine Sq<|Rg<|Lv Cm<|Lv Av<|Nl<|Ps ?_
      refine CW.cond rfl (fun h42=>?_) (fun h42=>?_)
      ·exact absurd (bT h42) hk
      ·replace h42:=bF h42
       refine Sk<|Bn<|Ps<|Sq<|Rg<|Lv Av<|Nl<|Ps<|Rt<|Rt1 ?_
       intro w' hw;exact⟨by unfold long1;first|(simp_all;done)|(simp_all;omega)|(congr 2;rw[Bool.eq_iff_iff];simp_all;omega),hw.below⟩
theorem anyP {L:List Kal}{k:Nat}{y:Kal}(hx:L[k]? =some y)(h:long1 y=true):((0:Int)≤(k:Nat))=(L.any long1=true):=by
 simp only[eq_iff_iff]
 exact⟨fun _=>List.any_eq_true.2 ⟨y,List.mem_of_getElem? hx,h⟩,fun _=>by omega⟩
theorem anyN {L:List Kal}(h:L.any long1=false):((0:Int)≤ -1)=(L.any long1=true):=by
 rw[h];simp only[eq_iff_iff]
 exact⟨fun h=>by omega,fun h=>by cases h⟩
theorem anyIx_c (gl:List Kz)(h7:∀z∈gl,z.1.k≠7)(gp:Option Addr)(gc:Nat)(hl:gl.length≤3000)(w:World)(h:V.slAt w gp 5 kzC gl):Calls Tryz.prog 470 [.slice gp gl.length gc,.func (.func 430) #[] #[]].toArray w fun e w'=>∃i:Int,((0≤i)=((gl.map Prod.fst).any long1=true))∧e= .returned (.int .i64 i)∧Below w.heap.size w w':=by
 refine V.calls [] Tryz.func470 rfl Tryz.ntmps470 (Nat.le_of_ble_eq_true rfl) (V.sat_nil _)<|Sq<|Rg<|Lv Av<|Nl<|Ps<|Sq<|Sq<|Rg<|Lv Mv<|Lv Ln<|Lv Mv<|Nl<|Ps<|Bk<|loopA (γ:=Nat) (fun k=>[(0,.slice gp gl.length gc),(1,.func (.func 430) #[] #[]),(7,.int .i64 (gl.length:Nat)),(8,.int .i64 (k:Nat))]) (fun _=>[]) (fun k=>k≤gl.length∧((gl.map Prod.fst).take k).any long1=false) (fun k=>gl.length-k) (0) ⟨Nat.zero_le _,rfl⟩ fun k=>?_
 rintro⟨hk1,hk2⟩
 refine Sq<|Rg<|Lv Cm<|Nl<|Ps<|Sq ?_
 refine CW.cond rfl (fun h9=>?_) (fun h9=>?_)
 ·replace h9:=bT h9
  obtain⟨bb1,o1,y,rfl,hb1,hx1,hr1⟩:=V.slAt_at h rfl (k:=k) (by omega)
  have hym:((gl.map Prod.fst))[k]? =some y.1:=by rw[List.getElem?_map,hx1];rfl
  refine Sk<|Ps<|Sq<|Bk<|Sq<|Rg<|Lv Mv<|Lv Av<|Nl<|Ps<|Sq<|Rg<|Lv Mv<|Lv Mv<|Lv Mv<|Lv Ix<|Lv (Val.loadOA (cs:=kzC y) rfl Tryz.isAgg91 hb1 (by simp[ids]) (hr1 (k) _ hx1) Tryz.sizeOf91)<|Le (Eff.callFV (f:=430) (caps:=[]) rfl rfl Tryz.call430 (fun w hw=>long1_c y.1 (.slice y.2.1 0 y.2.2) rfl (h7 y (List.mem_of_getElem? hx1)) w)) fun _ _=>Nl<|Ps ?_
  refine CW.cond rfl (fun h16=>?_) (fun h16=>?_)
  ·replace h16:=bT h16
   have h16:long1 y.1=true:=h16
   refine Sq<|Rg<|Lv Mv<|Lv Av<|Nl<|Ps<|Rt<|Br<|Tr<|Tr<|Br<|Tr<|Rt1 ?_
   intro w' hw;exact⟨(k:Nat),anyP hym h16,rfl,hw.below⟩
  ·replace h16:=bF h16
   have h16:long1 y.1=false:=h16
   refine Sk<|Bn<|Ps<|Rg<|Lv Ar<|Lv Mv<|Nl ?_
   exact roundA (k+1) ⟨by omega,by rw[any_take2 hym,hk2,h16];rfl⟩ (by omega)
 ·replace h9:=bF h9
  refine Xt<|Te<|Te<|Bh<|Ps<|Sq<|Rg<|Lv Av<|Nl<|Ps<|Rt<|Rt1 ?_
  intro w' hw;exact⟨-1,anyN (by rw[List.take_of_length_le (by rw[List.length_map];omega)] at hk2;exact hk2),rfl,hw.below⟩
theorem anyLong_c (gl:List Kz)(h7:∀z∈gl,z.1.k≠7)(gp:Option Addr)(gc:Nat)(hl:gl.length≤3000)(w:World)(h:V.slAt w gp 5 kzC gl):Calls Tryz.prog 458 [.slice gp gl.length gc,.func (.func 430) #[] #[]].toArray w fun e w'=>e= .returned (.bool ((gl.map Prod.fst).any long1))∧Below w.heap.size w w':=by
 refine V.calls [] Tryz.func458 rfl Tryz.ntmps458 (Nat.le_of_ble_eq_true rfl) (V.sat_nil _)<|Sq<|Rg<|Lv Av<|Nl<|Ps<|Sq<|Rg<|Lv Mv<|Lv Mv<|Le (CR fun w hw=>anyIx_c gl h7 gp gc hl w (hw.slAt h (by simp[ids]))) fun i hi=>Lv Cm<|Lv Av<|Nl<|Ps<|Rt<|Rt1 ?_
 intro w' hw;exact⟨by congr 2;rw[Bool.eq_iff_iff,decide_eq_true_eq,hi],hw.below⟩
theorem longG_c (c:Kal)(gl:List Kz)(gp:Option Addr)(gc:Nat)(hl:gl.length≤gc∧gl.length≤3000)(w:World)(h:V.slAt w gp 5 kzC gl)(hk:c.k=7)(h7:∀z∈gl,z.1.k≠7):Calls Tryz.prog 430 [.agg (klC c (.slice gp gl.length gc)).toArray].toArray w fun e w'=>e= .returned (.bool ((gl.map Prod.fst).any long1))∧Below w.heap.size w w':=by
 refine V.calls [] Tryz.func430 rfl Tryz.ntmps430 (Nat.le_of_ble_eq_true rfl) (V.sat_nil _)<|Sq<|Rg<|Le XA fun b1 _=>Lv Av<|Nl<|Ps<|Sq<|Sq<|Rg<|Lv (Fa 0 3)<|Lv (Ld (v:= .int .i64 c.k))<|Nl<|Ps<|Bk<|Sq<|Sq<|Rg<|Lv Cm<|LW.re 6 (.bool false) rfl (by simp[hk])<|Lv Av<|Nl<|Ps<|Cf<|Rg<|Lv Cm<|LW.re 7 (.bool false) rfl (by simp[hk])<|Lv Av<|Nl<|Ps<|Cf<|Sq<|Rg<|Lv Cm<|LW.re 13 (.bool false) rfl (by simp[hk])<|Lv Av<|Nl<|Ps<|Cf<|Sq<|Rg<|Lv Cm<|LW.re 25 (.bool false) rfl (by simp[hk])<|Lv Av<|Nl<|Ps<|Cf<|Sq<|Rg<|Lv Cm<|LW.re 31 (.bool false) rfl (by simp[hk])<|Lv Av<|Nl<|Ps<|Cf<|Sq<|Rg<|Lv Cm<|LW.re 43 (.bool true) rfl (by simp[hk])<|Lv Av<|Nl<|Ps<|Ct<|Sq<|Rg<|Lv (Fa 4 89)<|Lv (Ld (v:= .slice gp gl.length gc))<|Le (CV fun w hw=>anyLong_c gl h7 gp gc hl.2 w (hw.slAt h (by simp[ids]))) fun _ _=>Lv Av<|Nl<|Ps<|Rt<|Br<|Tr<|Rt1 ?_
 intro w' hw;exact⟨rfl,hw.below⟩
theorem sub_kind:∀{L pre:List Kal},allPre subOne pre L=true→∀y∈L,y.k≠7
 |[],_,_,y,hy=>by cases hy
 |z::r,pre,h,y,hy=>by
  rw[allPre,Bool.and_eq_true] at h
  rcases List.mem_cons.1 hy with rfl|hy
  ·have h1:=h.1
   unfold subOne grpB at h1
   simp only[Bool.and_eq_true,decide_eq_true_eq] at h1
   omega
  ·exact sub_kind h.2 y hy
theorem shape_kind {c:Kal}{g:List Kal}(h:shapeK c g=true)(hk:c.k=7):∀y∈g,y.k≠7:=by
 unfold shapeK at h
 rw[Bool.and_eq_true,Bool.or_eq_true,Bool.and_eq_true] at h
 rcases h.2 with h1|h1
 ·simp[hk] at h1
 ·exact sub_kind h1.2
theorem longA_c (c:Kal)(gl:List Kz)(gp:Option Addr)(gc:Nat)(hl:gl.length≤gc∧gl.length≤3000)(w:World)(h:V.slAt w gp 5 kzC gl)(hs:shapeK c (gl.map Prod.fst)=true):Calls Tryz.prog 430 [.agg (klC c (.slice gp gl.length gc)).toArray].toArray w fun e w'=>e= .returned (.bool (longK c (gl.map Prod.fst)))∧Below w.heap.size w w':=by
 unfold longK
 by_cases hk:c.k=7
 ·rw[if_pos hk]
  exact longG_c c gl gp gc hl w h hk (fun z hz=>shape_kind hs hk z.1 (List.mem_map_of_mem hz))
 ·rw[if_neg hk]
  exact long1_c c (.slice gp gl.length gc) rfl hk w
theorem good_g (c:Kal)(gl:List Kz)(gp:Option Addr)(gc:Nat)(hl:gl.length≤gc∧gl.length≤3000)(w:World)(h:V.slAt w gp 5 kzC gl):Calls Tryz.prog 397 [.agg (klC c (.slice gp gl.length gc)).toArray].toArray w fun e w'=>e= .returned (.int .i64 (goodK c (gl.map Prod.fst)))∧Below w.heap.size w w':=by
 refine V.calls [] Tryz.func397 rfl Tryz.ntmps397 (Nat.le_of_ble_eq_true rfl) (V.sat_nil _)<|Sq<|Rg<|Le XA fun b1 _=>Lv Av<|Nl<|Ps<|Sq<|Sq<|Rg<|Lv (Lw (l:=klC c (.slice gp gl.length gc)))<|Le (CV fun w hw=>shapeK_c c gl gp gc hl w (hw.slAt h (by simp[ids]))) fun _ _=>Lv Nt<|Nl<|Ps ?_
 refine CW.cond rfl (fun h5=>?_) (fun h5=>?_)
 ·replace h5:=bT h5
  refine Sq<|Rg<|Lv Av<|Nl<|Ps<|Rt<|Tr<|Rt1 ?_
  have e1:goodK c (gl.map Prod.fst)=1:=by unfold goodK;rw[if_neg (by simpa using h5)]
  rw[e1]
  intro w' hw;exact⟨rfl,hw.below⟩
 ·replace h5:=bF h5
  have hsh:shapeK c (gl.map Prod.fst)=true:=by simpa using h5
  refine Sk<|Ps<|Sq<|Sq<|Rg<|Lv (Lw (l:=klC c (.slice gp gl.length gc)))<|Le (CV fun w hw=>longA_c c gl gp gc hl w (hw.slAt h (by simp[ids])) hsh) fun _ _=>Nl<|Ps ?_
  refine CW.cond rfl (fun h7=>?_) (fun h7=>?_)
  ·replace h7:=bT h7
   refine Sq<|Rg<|Lv Av<|Nl<|Ps<|Rt<|Tr<|Rt1 ?_
   have e1:goodK c (gl.map Prod.fst)=5:=by unfold goodK;rw[if_pos hsh,if_pos (by simpa using h7)]
   rw[e1]
   intro w' hw;exact⟨rfl,hw.below⟩
  ·replace h7:=bF h7
   refine Sk<|Ps<|Sq<|Rg<|Lv Av<|Nl<|Ps<|Rt<|Rt1 ?_
   have e1:goodK c (gl.map Prod.fst)=0:=by unfold goodK;rw[if_pos hsh,if_neg (by simpa using h7)]
   rw[e1]
   intro w' hw;exact⟨rfl,hw.below⟩
instance:Cal Tryz.prog 149:=⟨Tryz.call149⟩
instance:Cal Tryz.prog 397:=⟨Tryz.call397⟩
instance:Cal Tryz.prog 398:=⟨Tryz.call398⟩
instance:Cal Tryz.prog 402:=⟨Tryz.call402⟩
instance:Cal Tryz.prog 411:=⟨Tryz.call411⟩
def wkC (x:ArR)(t:Int)(f:Frm)(o:FrO):List Value:= .pointer (some ⟨x.a,0,none⟩):: .int .i64 t::frC f o
abbrev wsS (wb:Nat)(T:TypeId)(x:ArR)(t:Int)(f:Frm)(o:FrO)(s:ArS)(xd:DvR)(v:Dev):Sg:=[(wb,.cells (wkC x t f o).toArray T (0,0))]::(frS f o++(arS x s xd.db++vS xd v))
structure ArG (th n:Nat)(x:ArR)(s:ArS)(a:AS):Prop where
 ok:ArOk th n x s
 is:ArIs x s a
 R:s.rg.R.length≤1900
def sizeK (c:Kal):Int:=if c.k=2 then(c.key.length:Int)+c.val.length else if c.k=4 then(c.val.length:Int) else 0
def bytesK (c:Kal):List UInt8:=if c.k=2 then c.key++c.val else if c.k=4 then c.val else[]
def enterE (a:AS)(t:Int)(f:Frm):Int:=if goodK f.c f.g=0 then rEnterE a.rd t else goodK f.c f.g
def enterA (a:AS)(t:Int)(f:Frm):AS:=if goodK f.c f.g=0 then {a with rd:=rEnter a.rd t} else a
def enterF (a:AS)(t:Int)(f:Frm):Frm:=if enterE a t f=0 then {f with ep:=a.ck.now} else {f with an:={f.an with code:=enterE a t f},ph:=7}
def failF (f:Frm)(e:Int):Frm:={f with an:={f.an with code:=e},ph:=6}
theorem ffail_g (wb:Nat)(T:TypeId)(x:ArR)(t:Int)(f:Frm)(o:FrO)(e0:Int)(w:World)(hs:Sat [[(wb,.cells (wkC x t f o).toArray T (0,0))]] w):Calls Tryz.prog 353 [.pointer (some ⟨wb,2,none⟩),.int .i64 e0].toArray w fun e w'=>∃_u:Unit,True∧e= .returned (.tuple #[])∧Hp ⟨w,V.ids ([[(wb,.cells (wkC x t f o).toArray T (0,0))]])⟩ ([[(wb,.cells (wkC x t (failF f e0) o).toArray T (0,0))]]) w':=by
 refine V.calls [[(wb,.cells (wkC x t f o).toArray T (0,0))]] Tryz.func353 rfl Tryz.ntmps353 (Nat.le_of_ble_eq_true rfl) hs<|Rg<|Lv Mv<|Lv Mv<|Lv Mv<|Lv Nz<|Lv (Fa 22 99)<|Lv (Fa 0 25)<|LeN (Eff.storeX (v:= .int .i64 e0) (l:=wkC x t (f) o) (l':=wkC x t ({f with an:={f.an with code:=e0}}) o) rfl rfl rfl (by repeat(first|exact .here|exact .inner .here|exact .inner (.inner .here)|apply Upd.there)) (by rfl) (by show 24<30;omega) Tryz.sizeOf25) fun _ _=>Lv Nz<|Lv (Fa 5 3)<|LeN (Eff.storeX (v:= .int .i64 6) (l:=wkC x t ({f with an:={f.an with code:=e0}}) o) (l':=wkC x t (failF f e0) o) rfl rfl rfl (by repeat(first|exact .here|exact .inner .here|exact .inner (.inner .here)|apply Upd.there)) (by rfl) (by show 7<30;omega) Tryz.sizeOf3) fun _ _=>Nl<|PQ.end0 rfl ?_
 intro w' hw;exact⟨(),trivial,rfl,hw⟩
theorem fsize_g (c:Kal)(g:Value)(hg:g.oneCell'=true)(hl:c.key.length≤100000∧c.val.length≤100000)(w:World):Calls Tryz.prog 355 [.agg (klC c g).toArray].toArray w fun e w'=>e= .returned (.int .i64 (sizeK c))∧Below w.heap.size w w':=by
 refine V.calls [] Tryz.func355 rfl Tryz.ntmps355 (Nat.le_of_ble_eq_true rfl) (V.sat_nil _)<|Sq<|Rg<|Le XA fun b1 _=>Lv Av<|Nl<|Ps<|Sq<|Sq<|Rg<|Lv (Fa 0 3)<|Lv (Ld (v:= .int .i64 c.k))<|Nl<|Ps<|Bk<|Sq<|Rg<|Lv Cm<|Lv Av<|Nl<|Ps ?_
 refine CW.cond rfl (fun h5=>?_) (fun h5=>?_)
 ·replace h5:=bT h5
  have h5:c.k=2:=h5
  refine Sq<|Rg<|Lv (Fa 1 9)<|Lv (Ld (v:=str c.key))<|Lv LnS<|Lv (Fa 2 9)<|Lv (Ld (v:=str c.val))<|Lv LnS<|Lv Ar<|Lv Av<|Nl<|Ps<|Rt<|Br<|Tr<|Rt1 ?_
  intro w' hw;exact⟨by unfold sizeK;simp_all,hw.below⟩
 ·replace h5:=bF h5
  have h5:¬c.k=2:=h5
  refine Sq<|Rg<|Lv Cm<|Lv Av<|Nl<|Ps ?_
  refine CW.cond rfl (fun h14=>?_) (fun h14=>?_)
  ·replace h14:=bT h14
   have h14:c.k=4:=h14
   refine Sq<|Rg<|Lv (Fa 2 9)<|Lv (Ld (v:=str c.val))<|Lv LnS<|Lv Av<|Nl<|Ps<|Rt<|Br<|Tr<|Rt1 ?_
   intro w' hw;exact⟨by unfold sizeK;simp_all,hw.below⟩
  ·replace h14:=bF h14
   have h14:¬c.k=4:=h14
   refine Sk<|Bn<|Ps<|Sq<|Rg<|Lv Av<|Nl<|Ps<|Rt<|Rt1 ?_
   intro w' hw;exact⟨by unfold sizeK;simp_all,hw.below⟩
theorem fbytes_g (c:Kal)(g:Value)(hg:g.oneCell'=true)(hl:c.key.length≤100000∧c.val.length≤100000)(w:World):Calls Tryz.prog 403 [.agg (klC c g).toArray].toArray w fun e w'=>e= .returned (str (bytesK c))∧Below w.heap.size w w':=by
 refine V.calls [] Tryz.func403 rfl Tryz.ntmps403 (Nat.le_of_ble_eq_true rfl) (V.sat_nil _)<|Sq<|Rg<|Le XA fun b1 _=>Lv Av<|Nl<|Ps<|Sq<|Sq<|Rg<|Lv (Fa 0 3)<|Lv (Ld (v:= .int .i64 c.k))<|Nl<|Ps<|Bk<|Sq<|Rg<|Lv Cm<|Lv Av<|Nl<|Ps ?_
 refine CW.cond rfl (fun h5=>?_) (fun h5=>?_)
 ·replace h5:=bT h5
  have h5:c.k=2:=h5
  refine Sq<|Rg<|Lv (Fa 1 9)<|Lv (Ld (v:=str c.key))<|Lv (Fa 2 9)<|Lv (Ld (v:=str c.val))<|Lv (Val.catStr rfl rfl (by first|omega|(simp only[List.length_append,List.length_cons,List.length_nil];omega)))<|Lv Av<|Nl<|Ps<|Rt<|Br<|Tr<|Rt1 ?_
  intro w' hw;exact⟨by unfold bytesK;first|(simp_all;done)|(simp_all;rfl),hw.below⟩
 ·replace h5:=bF h5
  have h5:¬c.k=2:=h5
  refine Sq<|Rg<|Lv Cm<|Lv Av<|Nl<|Ps ?_
  refine CW.cond rfl (fun h12=>?_) (fun h12=>?_)
  ·replace h12:=bT h12
   have h12:c.k=4:=h12
   refine Sq<|Rg<|Lv (Fa 2 9)<|Lv (Ld (v:=str c.val))<|Lv Av<|Nl<|Ps<|Rt<|Br<|Tr<|Rt1 ?_
   intro w' hw;exact⟨by unfold bytesK;first|(simp_all;done)|(simp_all;rfl),hw.below⟩
  ·replace h12:=bF h12
   have h12:¬c.k=4:=h12
   refine Sk<|Bn<|Ps<|Sq<|Rg<|Lv Av<|Nl<|Ps<|Rt<|Rt1 ?_
   intro w' hw;exact⟨by unfold bytesK;first|(simp_all;done)|(simp_all;rfl),hw.below⟩
def ArS.rdTo (s:ArS)(r:Rdr):ArS:={s with rd:=r}
def ArS.plTo (s:ArS)(L:List Slb):ArS:={s with L:=L}
theorem ArG.rdTo {th n:Nat}{x:ArR}{s:ArS}{a:AS}(h:ArG th n x s a)(r:Rdr)(hr:r.has.length=a.rd.has.length):ArG th n x (s.rdTo r) {a with rd:=r}:=
 ⟨⟨h.ok.pl,h.ok.sl,by show r.has.length=th;rw[hr,← h.is.rd];exact h.ok.rd,h.ok.ck,h.ok.bg,h.ok.tb,h.ok.od,h.ok.rg,h.ok.ef⟩,⟨h.is.L,rfl,h.is.ck,h.is.bg,h.is.Tz,h.is.D,h.is.q,h.is.id,h.is.ver,h.is.ef⟩,h.R⟩
theorem ArG.plTo {th n:Nat}{x:ArR}{s:ArS}{a:AS}(h:ArG th n x s a)(L:List Slb)(hp:plOk L)(hl:L.length=a.L.length):ArG th n x (s.plTo L) {a with L:=L}:=
 ⟨⟨hp,by show L.length=_;rw[hl,← h.is.L];exact h.ok.sl,h.ok.rd,h.ok.ck,h.ok.bg,h.ok.tb,h.ok.od,h.ok.rg,h.ok.ef⟩,⟨rfl,h.is.rd,h.is.ck,h.is.bg,h.is.Tz,h.is.D,h.is.q,h.is.id,h.is.ver,h.is.ef⟩,h.R⟩
def leaveA (a:AS)(t:Int):AS:={a with rd:=rLeave a.rd t}
def leaveF (f:Frm):Frm:={f with ph:=7}
theorem fleave_g (wb:Nat)(T:TypeId)(x:ArR)(t:Int)(f:Frm)(o:FrO)(s:ArS)(xd:DvR)(v:Dev)(th n:Nat)(a:AS)(hG:ArG th n x s a)(hF:FrOk f o)(w:World)(hs:Sat (wsS wb T x t f o s xd v) w):Calls Tryz.prog 358 [.pointer (some ⟨x.a,0,none⟩),.int .i64 t,.pointer (some ⟨wb,2,none⟩)].toArray w fun e w'=>∃s2:ArS,ArG th n x s2 (leaveA a t)∧e= .returned (.tuple #[])∧Hp ⟨w,V.ids ((wsS wb T x t f o s xd v))⟩ ((wsS wb T x t (leaveF f) o s2 xd v)) w':=by
 refine V.calls (wsS wb T x t f o s xd v) Tryz.func358 rfl Tryz.ntmps358 (Nat.le_of_ble_eq_true rfl) hs<|Sq<|Rg<|Lv Mv<|Le (CV fun w hw=>areaders_g x s w hw.at) fun _ _=>Lv Mv<|Le (CM (rdS x.rb x.hb s.rd) fun w hw hs0=>rleave_g x.rb x.hb s.rd t w hs0) fun _ _=>Nl<|Ps<|Rg<|Lv Mv<|Lv Nz<|Lv (Fa 5 3)<|LeN (Eff.storeX (v:= .int .i64 7) (l:=wkC x t (f) o) (l':=wkC x t (leaveF f) o) rfl rfl rfl (by repeat(first|exact .here|exact .inner .here|exact .inner (.inner .here)|apply Upd.there)) (by rfl) (by show 7<30;omega) Tryz.sizeOf3) fun _ _=>Nl<|PQ.end0 rfl ?_
 intro w' hw;exact⟨s.rdTo (rLeave s.rd t),by rw[leaveA,← hG.is.rd];exact hG.rdTo _ (by rw[rLeave_len,hG.is.rd]),rfl,hw.pick (by repeat(first|exact .nil|apply Pick.cons|exact .here|apply Ext.there))⟩
theorem fenter_g (wb:Nat)(T:TypeId)(x:ArR)(t:Int)(f:Frm)(o:FrO)(s:ArS)(xd:DvR)(v:Dev)(th n:Nat)(a:AS)(hG:ArG th n x s a)(hF:FrOk f o)(hgl:f.g.length≤3000)(hck:a.ck.Ok th)(w:World)(hs:Sat (wsS wb T x t f o s xd v) w):Calls Tryz.prog 347 [.pointer (some ⟨x.a,0,none⟩),.int .i64 t,.pointer (some ⟨wb,2,none⟩)].toArray w fun e w'=>∃s2:ArS,ArG th n x s2 (enterA a t f)∧e= .returned (.bool (decide (enterE a t f=0)))∧Hp ⟨w,V.ids ((wsS wb T x t f o s xd v))⟩ ((wsS wb T x t (enterF a t f) o s2 xd v)) w':=by
 have hgz:=hF.gl
 obtain⟨gp,gc,hvg,hcg,hsg⟩:=own_slg (e:=91) kzC_len o.gz o.go hF.go
 have hcg2:o.gz.length≤gc:=hcg (by omega)
 rw[hgz] at hvg
 have hck2:s.ck=ckk x.cb a.ck:=hG.is.ck
 refine V.calls (wsS wb T x t f o s xd v) Tryz.func347 rfl Tryz.ntmps347 (Nat.le_of_ble_eq_true rfl) hs<|Sq<|Rg<|Lv Av<|Nl<|Ps<|Sq<|Rg<|Lv Mv<|Lv Nz<|Lv (Fa 0 91)<|Lv (La (klC f.c (ownV f.g.length o.go)) (hl:=rfl))<|LW.re 11 (.agg (klC f.c (.slice gp o.gz.length gc)).toArray) rfl (by rw[hvg,hgz])<|Le (CV fun w hw=>good_g f.c o.gz gp gc ⟨hcg2,by omega⟩ w (hsg hw (by repeat(first|exact .nil|apply Pick.cons|exact .here|apply Ext.there)))) fun _ _=>LW.re 12 (.int .i64 (goodK f.c f.g)) rfl (by rw[hF.gz])<|Lv Av<|Nl<|Ps<|Sq<|Sq<|Rg<|Lv Mv<|Lv Cm<|Nl<|Ps ?_
 refine CW.cond rfl (fun h14=>?_) (fun h14=>?_)
 ·replace h14:=bT h14
  have h14:goodK f.c f.g=0:=h14
  refine Rg<|Lv Mv<|Le (CV fun w hw=>areaders_g x s w hw.at) fun _ _=>Lv Mv<|Le (CM (rdS x.rb x.hb s.rd) fun w hw hs0=>renter_g x.rb x.hb s.rd t w hs0) fun _ _=>LW.re 19 (.tuple #[.int .u64 (rEnterV a.rd t),.int .i64 (rEnterE a.rd t)]) rfl (by rw[hG.is.rd])<|Lv Mv<|Lv Ex<|Lv Ex<|Lv Av<|Nl<|Ps<|Sq<|Sq<|Rg<|Lv Mv<|Lv Cm<|Nl<|Ps ?_
  refine CW.cond rfl (fun h23=>?_) (fun h23=>?_)
  ·replace h23:=bT h23
   have h23:¬rEnterE a.rd t=0:=h23
   refine Sq<|Rg<|Lv Mv<|Lv Mv<|Lv Mv<|Lv Nz<|Lv (Fa 22 99)<|Lv (Fa 0 25)<|LeN (Eff.storeX (v:= .int .i64 (rEnterE a.rd t)) (l:=wkC x t (f) o) (l':=wkC x t ({f with an:={f.an with code:=rEnterE a.rd t}}) o) rfl rfl rfl (by repeat(first|exact .here|exact .inner .here|exact .inner (.inner .here)|apply Upd.there)) (by rfl) (by show 24<30;omega) Tryz.sizeOf25) fun _ _=>Lv Nz<|Lv (Fa 5 3)<|LeN (Eff.storeX (v:= .int .i64 7) (l:=wkC x t ({f with an:={f.an with code:=rEnterE a.rd t}}) o) (l':=wkC x t ({f with an:={f.an with code:=rEnterE a.rd t},ph:=7}) o) rfl rfl rfl (by repeat(first|exact .here|exact .inner .here|exact .inner (.inner .here)|apply Upd.there)) (by rfl) (by show 7<30;omega) Tryz.sizeOf3) fun _ _=>Nl<|Ps<|Sq<|Rg<|Lv Av<|Nl<|Ps<|Rt<|Tr<|Rt1 ?_
   have e1:enterE a t f=rEnterE a.rd t:=if_pos h14
   have e2:enterA a t f={a with rd:=rEnter a.rd t}:=if_pos h14
   have e3:enterF a t f={f with an:={f.an with code:=rEnterE a.rd t},ph:=7}:=(if_neg (by rw[e1];exact h23)).trans (by rw[e1])
   rw[e3,e2,decide_eq_false (by rw[e1];exact h23)]
   intro w' hw;exact⟨s.rdTo (rEnter s.rd t),by rw[← hG.is.rd];exact hG.rdTo _ (by rw[rEnter_len,hG.is.rd]),rfl,hw.pick (by repeat(first|exact .nil|apply Pick.cons|exact .here|apply Ext.there))⟩
  ·replace h23:=bF h23
   have h23:rEnterE a.rd t=0:=h23
   refine Sk<|Ps<|Sq<|Rg<|Lv Mv<|Lv Mv<|Le (CV fun w hw=>aclock_g x s w hw.at) fun _ _=>Le (CV fun w hw=>know_g x.cb x.wb a.ck w (by have h8:=hw.sat.pick (ss:=ckS x.cb x.wb s.ck) (by repeat(first|exact .nil|apply Pick.cons|exact .here|apply Ext.there));rw[hck2] at h8;exact h8)) fun _ _=>Lv Nz<|Lv (Fa 6 92)<|LeN (Eff.storeX (v:= .int .u64 a.ck.now) (l:=wkC x t (f) o) (l':=wkC x t ({f with ep:=a.ck.now}) o) rfl rfl rfl (by repeat(first|exact .here|exact .inner .here|exact .inner (.inner .here)|apply Upd.there)) (by rfl) (by show 8<30;omega) Tryz.sizeOf92) fun _ _=>Nl<|Ps<|Sq<|Rg<|Lv Av<|Nl<|Ps<|Rt<|Rt1 ?_
   have e1:enterE a t f=rEnterE a.rd t:=if_pos h14
   have e2:enterA a t f={a with rd:=rEnter a.rd t}:=if_pos h14
   have e3:enterF a t f={f with ep:=a.ck.now}:=if_pos (by rw[e1];exact h23)
   rw[e3,e2,decide_eq_true (by rw[e1];exact h23)]
   intro w' hw;exact⟨s.rdTo (rEnter s.rd t),by rw[← hG.is.rd];exact hG.rdTo _ (by rw[rEnter_len,hG.is.rd]),rfl,hw.pick (by repeat(first|exact .nil|apply Pick.cons|exact .here|apply Ext.there))⟩
 ·replace h14:=bF h14
  have h14:¬goodK f.c f.g=0:=h14
  refine Sk<|Ps<|Sq<|Sq<|Rg<|Lv Mv<|Lv Cm<|Nl<|Ps ?_
  refine CW.cond rfl (fun h23=>?_) (fun h23=>?_)
  ·replace h23:=bT h23
   have h23:¬goodK f.c f.g=0:=h23
   refine Sq<|Rg<|Lv Mv<|Lv Mv<|Lv Mv<|Lv Nz<|Lv (Fa 22 99)<|Lv (Fa 0 25)<|LeN (Eff.storeX (v:= .int .i64 (goodK f.c f.g)) (l:=wkC x t (f) o) (l':=wkC x t ({f with an:={f.an with code:=goodK f.c f.g}}) o) rfl rfl rfl (by repeat(first|exact .here|exact .inner .here|exact .inner (.inner .here)|apply Upd.there)) (by rfl) (by show 24<30;omega) Tryz.sizeOf25) fun _ _=>Lv Nz<|Lv (Fa 5 3)<|LeN (Eff.storeX (v:= .int .i64 7) (l:=wkC x t ({f with an:={f.an with code:=goodK f.c f.g}}) o) (l':=wkC x t ({f with an:={f.an with code:=goodK f.c f.g},ph:=7}) o) rfl rfl rfl (by repeat(first|exact .here|exact .inner .here|exact .inner (.inner .here)|apply Upd.there)) (by rfl) (by show 7<30;omega) Tryz.sizeOf3) fun _ _=>Nl<|Ps<|Sq<|Rg<|Lv Av<|Nl<|Ps<|Rt<|Tr<|Rt1 ?_
   have e1:enterE a t f=goodK f.c f.g:=if_neg h14
   have e2:enterA a t f=a:=if_neg h14
   have e3:enterF a t f={f with an:={f.an with code:=goodK f.c f.g},ph:=7}:=(if_neg (by rw[e1];exact h23)).trans (by rw[e1])
   rw[e3,e2,decide_eq_false (by rw[e1];exact h23)]
   intro w' hw;exact⟨s,hG,rfl,hw.pick (by repeat(first|exact .nil|apply Pick.cons|exact .here|apply Ext.there))⟩
  ·replace h23:=bF h23
   have h23:goodK f.c f.g=0:=h23
   refine Sk<|Ps<|Sq<|Rg<|Lv Mv<|Lv Mv<|Le (CV fun w hw=>aclock_g x s w hw.at) fun _ _=>Le (CV fun w hw=>know_g x.cb x.wb a.ck w (by have h8:=hw.sat.pick (ss:=ckS x.cb x.wb s.ck) (by repeat(first|exact .nil|apply Pick.cons|exact .here|apply Ext.there));rw[hck2] at h8;exact h8)) fun _ _=>Lv Nz<|Lv (Fa 6 92)<|LeN (Eff.storeX (v:= .int .u64 a.ck.now) (l:=wkC x t (f) o) (l':=wkC x t ({f with ep:=a.ck.now}) o) rfl rfl rfl (by repeat(first|exact .here|exact .inner .here|exact .inner (.inner .here)|apply Upd.there)) (by rfl) (by show 8<30;omega) Tryz.sizeOf92) fun _ _=>Nl<|Ps<|Sq<|Rg<|Lv Av<|Nl<|Ps<|Rt<|Rt1 ?_
   have e1:enterE a t f=goodK f.c f.g:=if_neg h14
   have e2:enterA a t f=a:=if_neg h14
   have e3:enterF a t f={f with ep:=a.ck.now}:=if_pos (by rw[e1];exact h23)
   rw[e3,e2,decide_eq_true (by rw[e1];exact h23)]
   intro w' hw;exact⟨s,hG,rfl,hw.pick (by repeat(first|exact .nil|apply Pick.cons|exact .here|apply Ext.there))⟩
def takeC (m:Int):Int:=needF m
def takeA (a:AS)(m:Int):AS:={a with L:=(ptakeF a.L (needF m)).1}
def takeLn (a:AS)(m:Int):Int:=(ptakeF a.L (needF m)).2.1
def takeE (a:AS)(m:Int):Int:=(ptakeF a.L (needF m)).2.2
def gbA (a:AS)(f:Frm):AS:={a with L:=(giveF a.L f.line).1}
def gbF (f:Frm):Frm:={f with line:= -1}
theorem ptakeF_len (L:List Slb)(c:Int):(ptakeF L c).1.length=L.length:=by
 unfold ptakeF
 split
 ·rfl
 ·split
  ·rfl
  ·split<;>simp
theorem fgive_g (wb:Nat)(T:TypeId)(x:ArR)(t:Int)(f:Frm)(o:FrO)(s:ArS)(xd:DvR)(v:Dev)(th n:Nat)(a:AS)(hG:ArG th n x s a)(hF:FrOk f o)(w:World)(hs:Sat (wsS wb T x t f o s xd v) w):Calls Tryz.prog 350 [.pointer (some ⟨x.a,0,none⟩),.pointer (some ⟨wb,2,none⟩)].toArray w fun e w'=>∃s2:ArS,ArG th n x s2 (gbA a f)∧e= .returned (.tuple #[])∧Hp ⟨w,V.ids ((wsS wb T x t f o s xd v))⟩ ((wsS wb T x t (gbF f) o s2 xd v)) w':=by
 refine V.calls (wsS wb T x t f o s xd v) Tryz.func350 rfl Tryz.ntmps350 (Nat.le_of_ble_eq_true rfl) hs<|Sq<|Dr ([[(wb,.cells (wkC x t f o).toArray T (0,0))],[(x.a,.cells (arC x s).toArray 166 (0,0))]])<|Rv 0 rfl Mv<|Rv 2 rfl Mv<|Rv 3 rfl Nz<|Rv 4 rfl (Fa 16 3)<|Rv 5 rfl (Ld (v:= .int .i64 f.line))<|Re 1 rfl (CV fun w hw=>apool_g x s w hw.at) fun _ _=>Re 6 rfl (CM (plS x.pb x.sb s.L) fun w hw hs0=>give_c x.pb x.sb s.L f.line hG.ok.pl w hs0) fun _ _=>Rd<|Ps<|Rg<|Lv Mv<|Lv Nz<|Lv (Fa 16 3)<|LeN (Eff.storeX (v:= .int .i64 (-1)) (l:=wkC x t (f) o) (l':=wkC x t (gbF f) o) rfl rfl rfl (by repeat(first|exact .here|exact .inner .here|exact .inner (.inner .here)|apply Upd.there)) (by rfl) (by show 18<30;omega) Tryz.sizeOf3) fun _ _=>Nl<|PQ.end0 rfl ?_
 intro w' hw;exact⟨s.plTo (giveF s.L f.line).1,by rw[gbA,← hG.is.L];exact hG.plTo _ (giveF_ok hG.ok.pl) (by rw[giveF_len,hG.is.L]),rfl,hw.pick (by repeat(first|exact .nil|apply Pick.cons|exact .here|apply Ext.there))⟩
theorem ftake_g (x:ArR)(s:ArS)(db th n:Nat)(a:AS)(hG:ArG th n x s a)(m:Int)(hm: -100000≤m∧m≤100000)(w:World)(hs:Sat (arS x s db) w):Calls Tryz.prog 354 [.pointer (some ⟨x.a,0,none⟩),.int .i64 m].toArray w fun e w'=>∃s2:ArS,ArG th n x s2 (takeA a m)∧e= .returned (.tuple #[.int .i64 (takeLn a m),.int .i64 (takeC m),.int .i64 (takeE a m)])∧Hp ⟨w,V.ids ((arS x s db))⟩ (arS x s2 db) w':=by
 refine V.calls (arS x s db) Tryz.func354 rfl Tryz.ntmps354 (Nat.le_of_ble_eq_true rfl) hs<|Sq<|Rg<|Lv Av<|Lv Av<|Lv Av<|Nl<|Ps<|Sq<|Rg<|Lv Mv<|Le (CV fun w hw=>need_c m w) fun _ _=>Lv Av<|Nl<|Ps<|Sq<|Rg<|Lv Mv<|Le (CV fun w hw=>apool_g x s w hw.at) fun _ _=>Lv Mv<|Le (CM (plS x.pb x.sb s.L) fun w hw hs0=>ptake_c x.pb x.sb s.L (needF m) hG.ok.pl w hs0) fun _ _=>Lv Mv<|Lv Ex<|Lv Ex<|Lv Av<|Lv Av<|Nl<|Ps<|Sq<|Rg<|Lv Mv<|Lv Mv<|Lv Mv<|Lv Av<|Lv Av<|Lv Av<|Nl<|Ps<|Rt<|Rt3 ?_
 intro w' hw;exact⟨s.plTo (ptakeF s.L (needF m)).1,by rw[takeA,← hG.is.L];exact hG.plTo _ (ptakeF_ok hG.ok.pl) (by rw[ptakeF_len,hG.is.L]),by unfold takeLn takeE takeC;rw[← hG.is.L],hw.pick (by repeat(first|exact .nil|apply Pick.cons|exact .here|apply Ext.there))⟩
instance:Cal Tryz.prog 403:=⟨Tryz.call403⟩
def readL (f:Frm)(v:Dev):List UInt8:=nowL v.D (f.old.line+f.pc)
def readF (f:Frm)(v:Dev):Frm:={f with bs:=f.bs++readL f v,pc:=f.pc+1}
def readB (f:Frm):Bool:=decide (f.pc+1=(spanF f.old.cls:Nat))
def fvB (bs:List UInt8):Blk:=(decF bs).getD blk0
def fvK (bs:List UInt8)(l:Lk)(kind:Int):Bool:=(decF bs).isSome&&decide ((fvB bs).kind=kind)&&decide ((fvB bs).id=l.id)&&decide ((fvB bs).ver=l.ver)&&decide ((fvB bs).key=l.key)
def wrN (c:Kal)(i:Int):Nat:=min (28+(i-1).toNat*63) (bytesK c).length
def wrD (c:Kal)(i:Int):List UInt8:=((bytesK c).drop (wrN c i)).take 63
def wrL (c:Kal)(i:Int):List UInt8:=2::(wrD c i++List.replicate (63-(wrD c i).length) 0)
theorem wrD_le (c:Kal)(i:Int):(wrD c i).length≤63:=by unfold wrD;rw[List.length_take];omega
theorem wrL_len (c:Kal)(i:Int):(wrL c i).length=64:=by
 have:=wrD_le c i
 unfold wrL
 rw[List.length_cons,List.length_append,List.length_replicate];omega
def writeD (v:Dev)(c:Kal)(line k i:Int):Dev:=if i=0 then v.store line 0 (draftL k) else v.store (line+i) 0 (wrL c i)
theorem bytesK_le {c:Kal}(hl:c.key.length≤100000∧c.val.length≤100000):(bytesK c).length≤200000:=by
 unfold bytesK
 split
 ·rw[List.length_append];omega
 ·split
  ·omega
  ·simp
theorem wr_copy {d:List UInt8}(h:d.length≤63):(byC ((List.replicate 64 0).set 0 2)).take 1++byC d++(byC ((List.replicate 64 0).set 0 2)).drop (1+d.length)=byC (2::(d++List.replicate (63-d.length) 0)):=by
 have e:(List.replicate 64 (0:UInt8)).set 0 2=2::List.replicate 63 0:=rfl
 rw[e,byC_take,← V.byC_append,byC_drop,← V.byC_append]
 congr 1
 rw[show(2::List.replicate 63 (0:UInt8)).drop (1+d.length)=List.replicate (63-d.length) 0 by rw[Nat.add_comm,List.drop_succ_cons,List.drop_replicate]]
 simp
theorem fread_g (wb:Nat)(T:TypeId)(x:ArR)(t:Int)(f:Frm)(o:FrO)(s:ArS)(xd:DvR)(v:Dev)(hF:FrOk f o)(hb:f.bs.length≤10000)(hp:0≤f.pc∧f.pc≤1000)(hl: -1000000≤f.old.line∧f.old.line≤1000000)(w:World)(hs:Sat (wsS wb T x t f o s xd v) w):Calls Tryz.prog 351 [.pointer (some ⟨x.a,0,none⟩),.pointer (some ⟨wb,2,none⟩)].toArray w fun e w'=>∃o':V.OwnO,ownOk 1 (f.bs++readL f v).length (byC (f.bs++readL f v)) o'∧e= .returned (.bool (readB f))∧Hp ⟨w,V.ids ((wsS wb T x t f o s xd v))⟩ ((wsS wb T x t (readF f v) {o with bo:=o'} s xd v)) w':=by
 have hn64:(readL f v).length≤64:=nowL_le _ _
 have hsp8:=span_le f.old.cls
 refine V.calls (wsS wb T x t f o s xd v) Tryz.func351 rfl Tryz.ntmps351 (Nat.le_of_ble_eq_true rfl) hs<|Sq<|Rg<|Lv Av<|Nl<|Ps<|Sq<|Dr ([[(wb,.cells (wkC x t (f) (o)).toArray T (0,0))],[(x.a,.cells (arC x s).toArray 166 (0,0))],[(x.dv,.cells (avC xd.db s).toArray 178 (0,0))]])<|Rv 0 rfl Mv<|Rv 2 rfl Mv<|Rv 3 rfl Nz<|Rv 4 rfl (Fa 11 94)<|Rv 5 rfl (Fa 3 3)<|Rv 6 rfl (Ld (v:= .int .i64 f.old.line))<|Rv 7 rfl Mv<|Rv 8 rfl Nz<|Rv 9 rfl (Fa 18 3)<|Rv 10 rfl (Ld (v:= .int .i64 f.pc))<|Rv 11 rfl Ar<|Re 1 rfl (CV fun w hw=>adev_g x s xd.db w hw.at hw.at) fun _ _=>Re 12 rfl (CM [] fun w hw hs0=>load_g xd v.D v.k (f.old.line+f.pc) w (hw.sat.pick (ss:=vS xd v) (by repeat(first|exact .nil|apply Pick.cons|exact .here|apply Ext.there)))) fun o2 ho2=>?_
 rw[show nowL v.D (f.old.line+f.pc)=readL f v from rfl] at ho2⊢
 refine Rv 13 rfl Mv<|Rv 14 rfl Ex<|Rv 15 rfl Ex<|Rv 16 rfl Av<|Rv 17 rfl Av<|Rd<|Ps<|Sq<|Rg<|Lv Mv<|Lv Mv<|Lv Nz<|Lv (Fa 19 30)<|Lv (Ld (v:=ownV f.bs.length o.bo))<|Lv Mv<|Le (Eff.appendOwn (sz:=1) (bytes:=1) (z:= .int .u8 0) (xs:=byC f.bs) (ys:=byC (readL f v)) (m0:=f.bs.length) (m:=(readL f v).length) (o:=o.bo) (oy:=o2) (pk:=[ownG 5 (byC f.bs) o.bo]) (pk2:=[ownG 5 (byC (readL f v)) o2]) rfl rfl Tryz.underlying30 (by kernel_rfl) rfl (by omega) (by repeat(first|exact .nil|apply Pick.cons|exact .here|apply Ext.there)) (by first|rfl|simp) hF.bo (by repeat(first|exact .nil|apply Pick.cons|exact .here|apply Ext.there)) (by simp) ho2 (V.byC_one _) (by omega) (by omega)) fun o3 ho3=>?_
 rw[← V.byC_append,show f.bs.length+(readL f v).length=(f.bs++readL f v).length by rw[List.length_append]] at*
 refine Lv Nz<|Lv (Fa 19 30)<|LeN (Eff.storeX (v:=ownV (f.bs++readL f v).length o3) (l:=wkC x t (f) o) (l':=wkC x t ({f with bs:=f.bs++readL f v}) {o with bo:=o3}) rfl rfl (V.ownV_one _ _) (by repeat(first|exact .here|exact .inner .here|exact .inner (.inner .here)|apply Upd.there)) (by rfl) (by show 21<30;omega) Tryz.sizeOf30) fun _ _=>Nl<|Ps<|Sq<|Rg<|Lv Mv<|Lv Nz<|Lv (Fa 18 3)<|Lv (Ld (v:= .int .i64 f.pc))<|Lv Ar<|Lv Nz<|Lv (Fa 18 3)<|LeN (Eff.storeX (v:= .int .i64 (f.pc+1)) (l:=wkC x t ({f with bs:=f.bs++readL f v}) {o with bo:=o3}) (l':=wkC x t (readF f v) {o with bo:=o3}) rfl rfl rfl (by repeat(first|exact .here|exact .inner .here|exact .inner (.inner .here)|apply Upd.there)) (by rfl) (by show 20<30;omega) Tryz.sizeOf3) fun _ _=>Nl<|Ps<|Sq<|Qt<|Qv Mv<|Qv Nz<|Qv (Fa 18 3)<|Qv (Ld (v:= .int .i64 (f.pc+1)))<|Qv Mv<|Qv Nz<|Qv (Fa 11 94)<|Qv (Fa 4 3)<|Qv (Ld (v:= .int .i64 f.old.cls))<|Qc (QV fun w hw=>span_c f.old.cls w)<|Qv Cm<|Qv Av<|Ql<|Ps<|Rt<|Rt1 ?_
 intro w' hw;exact⟨o3,ho3,rfl,hw.pick (by repeat(first|exact .nil|apply Pick.cons|exact .here|apply Ext.there))⟩
theorem fvalue_g (wb:Nat)(T:TypeId)(x:ArR)(t:Int)(f:Frm)(o:FrO)(hF:FrOk f o)(hb:f.bs.length≤1000)(kind:Int)(w:World)(hs:Sat ([(wb,.cells (wkC x t (f) (o)).toArray T (0,0))]::frS (f) (o)) w):Calls Tryz.prog 352 [.pointer (some ⟨wb,2,none⟩),.int .i64 kind].toArray w fun e w'=>∃_u:Unit,True∧e= .returned (.tuple #[str (fvB f.bs).val,.bool (fvK f.bs f.old kind)])∧Hp ⟨w,V.ids (([(wb,.cells (wkC x t (f) (o)).toArray T (0,0))]::frS (f) (o)))⟩ (([(wb,.cells (wkC x t ({f with bs:=[]}) ({o with bo:=none})).toArray T (0,0))]::frS ({f with bs:=[]}) ({o with bo:=none}))) w':=by
 obtain⟨pd,cd,hvd,hcd,_,hsd⟩:=own_src hF.bo
 refine V.calls ([(wb,.cells (wkC x t (f) (o)).toArray T (0,0))]::frS (f) (o)) Tryz.func352 rfl Tryz.ntmps352 (Nat.le_of_ble_eq_true rfl) hs<|Sq<|Rg<|Lv Av<|Lv Av<|Nl<|Ps<|Sq<|Rg<|Lv Mv<|Lv Nz<|Lv (Fa 19 30)<|Lv (Ld (v:=ownV f.bs.length o.bo))<|LW.re 12 (.slice pd f.bs.length cd) rfl hvd<|Le (CV fun w hw=>decode_c f.bs pd cd hb hcd w (hsd hw (by repeat(first|exact .nil|apply Pick.cons|exact .here|apply Ext.there)))) fun _ _=>Lv Mv<|Lv Ex<|LW.re 14 (.agg (blC (fvB f.bs)).toArray) rfl (by rfl)<|Lv Ex<|Le AA fun b6 _=>LeN StW fun _ _=>Lv Av<|Nl<|Ps<|Sq<|Rg<|Lv Mv<|Lv Nz<|Lv (Fa 19 30)<|LeN (Eff.storeX (v:= .slice none 0 0) (l:=wkC x t (f) o) (l':=wkC x t ({f with bs:=[]}) {o with bo:=none}) rfl rfl rfl (by repeat(first|exact .here|exact .inner .here|exact .inner (.inner .here)|apply Upd.there)) (by rfl) (by show 21<30;omega) Tryz.sizeOf30) fun _ _=>Nl<|Ps<|Sq<|Qt<|Qv (Fa 6 9)<|Qv (Ld (v:=str (fvB f.bs).val))<|Qv Mv<|Qv Mv ?_
 refine QW.split (d:=22) rfl (fun h22=>?_) (fun h22=>?_)
 ·replace h22:=bT h22
  refine Qv (Fa 1 3)<|Qv (Ld (v:= .int .i64 (fvB f.bs).kind))<|Qv Mv<|Qv Cm<|Qv Pt<|Qv Mv ?_
  refine QW.split (d:=28) rfl (fun h28=>?_) (fun h28=>?_)
  ·replace h28:=bT h28
   refine Qv (Fa 2 92)<|Qv (Ld (v:= .int .u64 (fvB f.bs).id))<|Qv Mv<|Qv Nz<|Qv (Fa 11 94)<|Qv (Fa 1 92)<|Qv (Ld (v:= .int .u64 f.old.id))<|Qv Cm<|Qv Pt<|Qv Mv ?_
   refine QW.split (d:=38) rfl (fun h38=>?_) (fun h38=>?_)
   ·replace h38:=bT h38
    refine Qv (Fa 3 92)<|Qv (Ld (v:= .int .u64 (fvB f.bs).ver))<|Qv Mv<|Qv Nz<|Qv (Fa 11 94)<|Qv (Fa 2 92)<|Qv (Ld (v:= .int .u64 f.old.ver))<|Qv Cm<|Qv Pt<|Qv Mv ?_
    refine QW.split (d:=48) rfl (fun h48=>?_) (fun h48=>?_)
    ·replace h48:=bT h48
     refine Qv (Fa 5 9)<|Qv (Ld (v:=str (fvB f.bs).key))<|Qv Mv<|Qv Nz<|Qv (Fa 11 94)<|Qv (Fa 0 9)<|Qv (Ld (v:=str f.old.key))<|Qv ES<|Qv Pt<|Qv Av<|Qv Av<|Ql<|Ps<|Rt<|Rt2 ?_
     intro w' hw;exact⟨(),trivial,by unfold fvK;simp_all,(hw.pick (ss:=[(wb,.cells (wkC x t ({f with bs:=[]}) ({o with bo:=none})).toArray T (0,0))]::ownG 91 (o.gz.flatMap kzC) o.go::ownG 192 (f.pa.flatMap ptC) o.po::anS f.an o.so o.ho) (by repeat(first|exact .nil|apply Pick.cons|exact .here|apply Ext.there))).perm (.refl _)⟩
    ·replace h48:=bF h48
     refine Qp<|Qp<|Qp<|Qp<|Qp<|Qp<|Qp<|Qp<|Qv Pf<|Qv Av<|Qv Av<|Ql<|Ps<|Rt<|Rt2 ?_
     intro w' hw;exact⟨(),trivial,by unfold fvK;simp_all,(hw.pick (ss:=[(wb,.cells (wkC x t ({f with bs:=[]}) ({o with bo:=none})).toArray T (0,0))]::ownG 91 (o.gz.flatMap kzC) o.go::ownG 192 (f.pa.flatMap ptC) o.po::anS f.an o.so o.ho) (by repeat(first|exact .nil|apply Pick.cons|exact .here|apply Ext.there))).perm (.refl _)⟩
   ·replace h38:=bF h38
    refine Qp<|Qp<|Qp<|Qp<|Qp<|Qp<|Qp<|Qp<|Qv Pf<|Qv Mv<|Qp<|Qp<|Qp<|Qp<|Qp<|Qp<|Qp<|Qp<|Qv Pf<|Qv Av<|Qv Av<|Ql<|Ps<|Rt<|Rt2 ?_
    intro w' hw;exact⟨(),trivial,by unfold fvK;simp_all,(hw.pick (ss:=[(wb,.cells (wkC x t ({f with bs:=[]}) ({o with bo:=none})).toArray T (0,0))]::ownG 91 (o.gz.flatMap kzC) o.go::ownG 192 (f.pa.flatMap ptC) o.po::anS f.an o.so o.ho) (by repeat(first|exact .nil|apply Pick.cons|exact .here|apply Ext.there))).perm (.refl _)⟩
  ·replace h28:=bF h28
   refine Qp<|Qp<|Qp<|Qp<|Qp<|Qp<|Qp<|Qp<|Qv Pf<|Qv Mv<|Qp<|Qp<|Qp<|Qp<|Qp<|Qp<|Qp<|Qp<|Qv Pf<|Qv Mv<|Qp<|Qp<|Qp<|Qp<|Qp<|Qp<|Qp<|Qp<|Qv Pf<|Qv Av<|Qv Av<|Ql<|Ps<|Rt<|Rt2 ?_
   intro w' hw;exact⟨(),trivial,by unfold fvK;simp_all,(hw.pick (ss:=[(wb,.cells (wkC x t ({f with bs:=[]}) ({o with bo:=none})).toArray T (0,0))]::ownG 91 (o.gz.flatMap kzC) o.go::ownG 192 (f.pa.flatMap ptC) o.po::anS f.an o.so o.ho) (by repeat(first|exact .nil|apply Pick.cons|exact .here|apply Ext.there))).perm (.refl _)⟩
 ·replace h22:=bF h22
  refine Qp<|Qp<|Qp<|Qp<|Qv Pf<|Qv Mv<|Qp<|Qp<|Qp<|Qp<|Qp<|Qp<|Qp<|Qp<|Qv Pf<|Qv Mv<|Qp<|Qp<|Qp<|Qp<|Qp<|Qp<|Qp<|Qp<|Qv Pf<|Qv Mv<|Qp<|Qp<|Qp<|Qp<|Qp<|Qp<|Qp<|Qp<|Qv Pf<|Qv Av<|Qv Av<|Ql<|Ps<|Rt<|Rt2 ?_
  intro w' hw;exact⟨(),trivial,by unfold fvK;simp_all,(hw.pick (ss:=[(wb,.cells (wkC x t ({f with bs:=[]}) ({o with bo:=none})).toArray T (0,0))]::ownG 91 (o.gz.flatMap kzC) o.go::ownG 192 (f.pa.flatMap ptC) o.po::anS f.an o.so o.ho) (by repeat(first|exact .nil|apply Pick.cons|exact .here|apply Ext.there))).perm (.refl _)⟩
theorem fwrite_g (x:ArR)(s:ArS)(xd:DvR)(v:Dev)(c:Kal)(g:Value)(hg:g.oneCell'=true)(hl:c.key.length≤100000∧c.val.length≤100000)(line k i:Int)(hi:0≤i∧i≤1000)(hln: -1000000≤line∧line≤1000000)(w:World)(hs:Sat (arS x s xd.db++vS xd v) w):Calls Tryz.prog 356 [.pointer (some ⟨x.a,0,none⟩),.agg (klC c g).toArray,.int .i64 line,.int .i64 k,.int .i64 i].toArray w fun e w'=>∃_u:Unit,True∧e= .returned (.bool (decide (i+1=(spanF k:Nat))))∧Hp ⟨w,V.ids ((arS x s xd.db++vS xd v))⟩ (arS x s xd.db++vS xd (writeD v c line k i)) w':=by
 have hsp8:=span_le k
 have hbl:(bytesK c).length≤200000:=bytesK_le hl
 refine V.calls (arS x s xd.db++vS xd v) Tryz.func356 rfl Tryz.ntmps356 (Nat.le_of_ble_eq_true rfl) hs<|Sq<|Rg<|Le XA fun b6 _=>Lv Av<|Nl<|Ps<|Sq<|Sq<|Rg<|Lv Mv<|Lv Cm<|Nl<|Ps ?_
 refine CW.cond rfl (fun h15=>?_) (fun h15=>?_)
 ·replace h15:=bT h15
  have h15:i=0:=h15
  refine Rg<|Lv Mv<|Le (CV fun w hw=>adev_g x s xd.db w hw.at hw.at) fun _ _=>Lv Mv<|Lv Mv<|Le (CM [] fun w hw hs0=>draft_c k w) fun o1 ho1=>?_
  obtain⟨p1,c1,hv1,hc1,_,hs1⟩:=own_src ho1
  have hn64:=draft_le k
  refine LW.re 20 (.slice p1 (draftL k).length c1) rfl hv1<|Le (CM (vS xd v) fun w hw hs0=>store_v xd v line 0 (draftL k) p1 c1 (by omega) w hs0 (hs1 hw (show Pick [ownG 5 (byC (draftL k)) o1] _ _ from(by repeat(first|exact .nil|apply Pick.cons|exact .here|apply Ext.there)))) (fun _ b q hb=>own_not hw hv1 (show Pick (ownG 5 (byC (draftL k)) o1::vS xd v) _ _ from(by repeat(first|exact .nil|apply Pick.cons|exact .here|apply Ext.there))) b q hb)) fun _ _=>Nl<|Ps<|Sq<|Rg<|Lv Mv<|Lv Ar<|Lv Mv<|Le (CV fun w hw=>span_c k w) fun _ _=>Lv Cm<|Lv Av<|Nl<|Ps<|Rt<|Rt1 ?_
  have e1:writeD v c line k i=v.store line 0 (draftL k):=if_pos h15
  rw[e1]
  intro w' hw;exact⟨(),trivial,rfl,hw.pick (by repeat(first|exact .nil|apply Pick.cons|exact .here|apply Ext.there))⟩
 ·replace h15:=bF h15
  have h15:¬i=0:=h15
  refine Sq<|Rg<|Le (Eff.makeSlice (m:=64) (by_:=1) (zl:=[.int .u8 0]) rfl rfl Tryz.underlying30 (by kernel_rfl) Tryz.sizeOf5 (by exact Tryz.zeroValue5) (by kernel_rfl) rfl (by omega) (by omega) (by omega)) fun b22 _=>?_
  rw[zeros_byC]
  refine Lv Av<|Nl<|Ps<|Sq<|Rg<|Lv Mv<|Lv (Val.indexAddrN (i:=0) rfl rfl Tryz.underlying30 Tryz.sizeOf5 (by omega))<|LeN (Eff.storeX (l:=byC (List.replicate 64 0)) (l':=byC ((List.replicate 64 0).set (0) (2))) rfl rfl rfl (by repeat(first|exact .here|exact .inner .here|exact .inner (.inner .here)|apply Upd.there)) (by have h8:=set_byC (List.replicate 64 0) (0) (2);simpa using h8) (by simp only[V.byC_len,List.length_set,List.length_replicate];omega) Tryz.sizeOf5) fun _ _=>Nl<|Ps<|Sq<|Rg<|Lv (Lw (l:=klC c g))<|Le (CV fun w hw=>fbytes_g c g hg hl w) fun _ _=>Lv Av<|Nl<|Ps<|Sq<|Rg<|Lv Mv<|Lv Ar<|Lv Ar<|Lv Ar<|Lv (Val.maxI rfl rfl)<|Lv Mv<|Lv LnS<|Lv (Val.minI rfl rfl)<|LW.re 34 (.int .i64 (wrN c i:Nat)) rfl (by congr 1;unfold wrN;split<;>split<;>omega)<|Lv Av<|Nl<|Ps<|Sq<|Dr ([])<|Rv 0 rfl Mv<|Rv 1 rfl (Val.slice 1 64 64 rfl Tryz.underlying30 Tryz.sizeOf5 ⟨_,rfl⟩ rfl rfl (fun _=>rfl) (by omega) (by omega) (by omega))<|RW.re 36 (.slice (some ⟨b22,1,none⟩) 63 63) rfl (by simp)<|Rv 2 rfl Mv<|Rv 3 rfl Mv<|Rv 4 rfl (Val.sliceStr (l:=bytesK c) (wrN c i) (bytesK c).length rfl Tryz.underlying9 ⟨_,rfl⟩ rfl (by unfold wrN;omega) (by omega))<|Re 5 rfl (Eff.copyStr (sz:=1) (T:=5) (gb:=b22) (cur:=byC ((List.replicate 64 0).set 0 2)) (cells':=byC (wrL c i)) (m:=(wrD c i).length) rfl rfl Tryz.underlying30 (by kernel_rfl) (by repeat(first|exact .here|exact .inner .here|exact .inner (.inner .here)|apply Upd.there)) (by have h8:=wr_copy (wrD_le c i);rw[show(((bytesK c).drop (wrN c i)).take ((bytesK c).length-wrN c i)).take (wrD c i).length=wrD c i by unfold wrD;simp[List.take_take]];exact h8) (by show min _ _=_;unfold wrD;simp only[List.length_take,List.length_drop];omega) (by have:=wrD_le c i;rw[V.byC_len];simp;omega)) fun _ _=>Rd<|Ps<|Rg<|Lv Mv<|Le (CV fun w hw=>adev_g x s xd.db w hw.at hw.at) ?_
  intro _ _
  refine Lv Mv<|Lv Mv<|Lv Ar<|Lv Mv<|Le (CM (vS xd v) fun w hw hs0=>by have h8:=store_v xd v (line+i) 0 (wrL c i) (some ⟨b22,0,none⟩) 64 (by rw[wrL_len];omega) w hs0 (byE_of (hw.own _ (show InS (b22,.cells (byC (wrL c i)).toArray 5 (0,0)) _ from(by repeat(first|exact .here|exact .inner .here|exact .inner (.inner .here)|refine .there ?_))).mem)) (fun _ b q hb=>by simp only[Option.some.injEq,Addr.mk.injEq] at hb;obtain⟨rfl,_⟩:=hb;exact not_in hw (show Pick (vS xd v) _ _ from(by repeat(first|exact .nil|apply Pick.cons|exact .here|apply Ext.there))) (show InS (b22,.cells (byC (wrL c i)).toArray 5 (0,0)) _ from(by repeat(first|exact .here|exact .inner .here|exact .inner (.inner .here)|refine .there ?_))));rw[wrL_len] at h8;exact h8) fun _ _=>Nl<|Ps<|Sq<|Rg<|Lv Mv<|Lv Ar<|Lv Mv<|Le (CV fun w hw=>span_c k w) fun _ _=>Lv Cm<|Lv Av<|Nl<|Ps<|Rt<|Rt1 ?_
  have e1:writeD v c line k i=v.store (line+i) 0 (wrL c i):=if_neg h15
  rw[e1]
  intro w' hw;exact⟨(),trivial,rfl,hw.pick (by repeat(first|exact .nil|apply Pick.cons|exact .here|apply Ext.there))⟩
end G
end Go.Proofs.YtpjmdbifacijoaaGreatDoor
namespace Go.Proofs.YtpjmdbifacijoaaGreatDoor.V
open Go Go.RowKit Go.MapKept
set_option linter.unusedVariables false
section
variable {P:Program}{n:Nat}{B:Base}{ks:Ks}{sg:Sg}{d:Option Tmp}{ty:TypeId}{pos:String}{aft:Array Edge}{g:Option (Nat×Bool)}
theorem Val.lookup1 {t kt et:TypeId}{x y:Operand}{b c:Nat}{E:ME}{k:ByteArray}{z:Value}(hx:ev ks x=some (.map (some b)))(hy:ev ks y=some (.string k))(hu:P.underlying t=some (.map kt et))(hk:P.underlying kt=some .string)(hz:∀w,(zeroValue et).run P w= .ok z w)(hm:InS (b,mpO E c) sg):
 Val P n B ⟨d,.lookup t x y false,ty,pos,aft,g⟩ ks sg ((mget E k).getD z):=fun a w ha hw=>by
 show(do pure (Next.value (← Instr.lookup t (a.eval x) (a.eval y) false)):Sem Next).run P w=_
 rw[ha.ev hx,ha.ev hy]
 refine run_value ?_
 have hb:w.heap[b]? =some (.map (E.map mE).toArray c):=hw.own _ hm.mem
 have hc:∀e,(Instr.checkKey e 10000 kt (.string k)).run P w= .ok () w:=fun e=>run_checkKey hk (show IsKey .string (.string k) from trivial) e 9999
 have hf:=run_findKey_m (P:=P) (w:=w) (k:=k) (E:=E) hk
 have hg:=mfind_get k E 0
 simp only[Instr.lookup,Sem.run_bind,run_underlying hu,Result.andThen_ok,MapKept.run_getObj_map hb,Sem.run_pure,hc,hf]
 cases hq:mfind E k 0 with
 |none=>rw[hq] at hg;simp only[Option.map_none] at hg;simp[← hg,hz]
 |some p=>rw[hq] at hg;simp only[Option.map_some] at hg;simp[← hg]
end
def keyD (E:ME):DataW Unit:= .map ((E.map fun e=>((Lit.string e.2.1.data.toList,DataW.nil):Lit×DataW Unit)).foldr DataW.insert [])
theorem keyD_size (E:ME):Maps.size (keyD E)=E.length:=by
 show((E.map fun e=>((Lit.string e.2.1.data.toList,DataW.nil):Lit×DataW Unit)).foldr DataW.insert []).length=_
 rw[length_sorted,List.length_map]
theorem keyD_keys (E:ME):(Go.strKeys (keyD E)).Perm (E.map fun e=>e.2.1.data.toList):=by
 have h:=(Go.WideShapes.sorted_perm (E.map fun e=>((Lit.string e.2.1.data.toList,DataW.nil):Lit×DataW Unit))).map (fun p=>Go.strOf p.1)
 simp only[List.map_map] at h
 exact h
theorem owns_keys {P:Program}{kt:TypeId}(hk:P.underlying kt=some .string){E:ME}{b c:Nat}(hE:mnd E)(hS:Stp E c)(hs:∀e∈E,e.2.1.size≤maxLen)(hn:E.length≤maxLen){w:World}(hb:w.heap[b]? =some (mpO E c)):w.ownsMap P kt (fun _=>some (DataW.nil,[])) b E.length (keyD E):=by
 have hrd:∀e∈E,Go.WideElems.rd P kt (fun _=>some ((DataW.nil:DataW Unit),[])) (mE e)=some (Lit.string e.2.1.data.toList,DataW.nil):=fun e he=>by
  simp[Go.WideElems.rd,mE,Go.WideMaps.keyOf_string_mk hk (hs e he)]
 refine⟨(E.map mE).toArray,c,hb,⟨by simpa using hn,⟨fun x hx=>?_,?_,?_⟩,fun x hx=>?_⟩,by simp,?_⟩
 ·simp only[List.toList_toArray,List.mem_map] at hx
  obtain⟨e,he,rfl⟩:=hx
  exact hS.lt e he
 ·simp only[List.toList_toArray,List.map_map]
  exact hS.nd
 ·simp only[List.toList_toArray,List.map_map]
  have:(E.map (fun e=>e.2.1)).Nodup:=hE
  have h2:=List.Pairwise.map (R:=(· ≠·)) (S:=(· ≠·)) (fun k:ByteArray=>Value.string k) (fun a b hab h=>hab (by injection h)) this
  simpa[List.map_map,Function.comp_def,mE,List.Nodup] using h2
 ·simp only[List.toList_toArray,List.mem_map] at hx
  obtain⟨e,he,rfl⟩:=hx
  exact⟨_,hrd e he⟩
 ·unfold keyD
  congr 2
  simp only[List.toList_toArray,List.map_map]
  refine List.map_congr_left fun e he=>?_
  simp[Go.WideElems.rg,hrd e he]
end Go.Proofs.YtpjmdbifacijoaaGreatDoor.V
namespace Go.Proofs
open Go.Shelf
def Tryz.keys400_ren:Go.Shelf.Ren:=⟨fun|7=>400|10=>434|n=>n,fun|23=>267|26=>9|3=>94|28=>40|0=>0|27=>39|33=>28|4=>4|n=>n,fun|n=>n⟩
theorem Tryz.keys400:Go.Proofs.SlLaysZ.n7 Tryz.prog Tryz.keys400_ren:={
 mixed:=by kernel_rfl
 f7:=⟨Tryz.f400.name,by decide,Tryz.func400.trans (congrArg some (by kernel_rfl))⟩
 f10:=⟨Tryz.f434.name,by decide,Tryz.func434.trans (congrArg some (by kernel_rfl))⟩
 t0:=Tryz.underlying0
 a0:=Tryz.isAgg0
 z0:=Tryz.sizeOf0
 v0:=Tryz.zeroValue0
 t4:=Tryz.underlying4
 a4:=Tryz.isAgg4
 z4:=Tryz.sizeOf4
 v4:=Tryz.zeroValue4
 t23:=Tryz.underlying267
 a23:=Tryz.isAgg267
 z23:=Tryz.sizeOf267
 v23:=Tryz.zeroValue267
 t26:=Tryz.underlying9
 a26:=Tryz.isAgg9
 z26:=Tryz.sizeOf9
 v26:=Tryz.zeroValue9
 t27:=Tryz.underlying39
 a27:=Tryz.isAgg39
 z27:=Tryz.sizeOf39
 v27:=Tryz.zeroValue39
 t28:=Tryz.underlying40
 a28:=Tryz.isAgg40
 z28:=Tryz.sizeOf40
 v28:=Tryz.zeroValue40
 t33:=Tryz.underlying28
 a33:=Tryz.isAgg28
 z33:=Tryz.sizeOf28
 v33:=Tryz.zeroValue28}
def Tryz.sorted399_ren:Go.Shelf.Ren:=⟨fun|6=>399|8=>432|9=>433|11=>459|13=>228|12=>460|23=>274|24=>188|14=>471|15=>472|16=>473|17=>474|18=>475|19=>476|20=>477|21=>478|22=>479|25=>483|26=>331|27=>332|28=>484|29=>485|30=>486|31=>487|n=>n,fun|26=>9|28=>40|24=>23|0=>0|3=>3|37=>52|48=>168|50=>92|4=>4|40=>416|39=>415|45=>420|5=>5|9=>9|51=>446|55=>449|57=>495|58=>496|33=>28|n=>n,fun|n=>n⟩
theorem Tryz.sorted399:Go.Proofs.SlLaysZ.n6 Tryz.prog Tryz.sorted399_ren:={
 mixed:=by kernel_rfl
 f6:=⟨Tryz.f399.name,by decide,Tryz.func399.trans (congrArg some (by kernel_rfl))⟩
 f8:=⟨Tryz.f432.name,by decide,Tryz.func432.trans (congrArg some (by kernel_rfl))⟩
 f11:=⟨Tryz.f459.name,by decide,Tryz.func459.trans (congrArg some (by kernel_rfl))⟩
 t0:=Tryz.underlying0
 a0:=Tryz.isAgg0
 z0:=Tryz.sizeOf0
 v0:=Tryz.zeroValue0
 t24:=Tryz.underlying23
 a24:=Tryz.isAgg23
 z24:=Tryz.sizeOf23
 v24:=Tryz.zeroValue23
 t26:=Tryz.underlying9
 a26:=Tryz.isAgg9
 z26:=Tryz.sizeOf9
 v26:=Tryz.zeroValue9
 t28:=Tryz.underlying40
 a28:=Tryz.isAgg40
 z28:=Tryz.sizeOf40
 v28:=Tryz.zeroValue40
 i26:=by kernel_rfl}
def Tryz.sort433_ren:Go.Shelf.Ren:=⟨fun|6=>433|8=>228|9=>460|19=>274|20=>188|21=>471|22=>472|23=>473|24=>474|25=>475|26=>476|27=>477|28=>478|29=>479|36=>483|31=>331|32=>332|37=>484|38=>485|39=>486|41=>487|n=>n,fun|27=>23|29=>9|3=>3|32=>52|26=>23|0=>0|44=>168|46=>92|4=>4|36=>416|35=>415|41=>420|5=>5|9=>9|53=>446|57=>449|63=>495|64=>496|n=>n,fun|n=>n⟩
theorem Tryz.sort433:Go.Proofs.SlLaysM.n6 Tryz.prog Tryz.sort433_ren:={
 mixed:=by kernel_rfl
 f6:=⟨Tryz.f433.name,by decide,Tryz.func433.trans (congrArg some (by kernel_rfl))⟩
 f8:=Tryz.func228.trans (congrArg some (by kernel_rfl))
 f9:=⟨Tryz.f460.name,by decide,Tryz.func460.trans (congrArg some (by kernel_rfl))⟩
 f19:=Tryz.func274.trans (congrArg some (by kernel_rfl))
 f20:=Tryz.func188.trans (congrArg some (by kernel_rfl))
 f21:=⟨Tryz.f471.name,by decide,Tryz.func471.trans (congrArg some (by kernel_rfl))⟩
 f22:=⟨Tryz.f472.name,by decide,Tryz.func472.trans (congrArg some (by kernel_rfl))⟩
 f23:=⟨Tryz.f473.name,by decide,Tryz.func473.trans (congrArg some (by kernel_rfl))⟩
 f24:=⟨Tryz.f474.name,by decide,Tryz.func474.trans (congrArg some (by kernel_rfl))⟩
 f25:=⟨Tryz.f475.name,by decide,Tryz.func475.trans (congrArg some (by kernel_rfl))⟩
 f26:=⟨Tryz.f476.name,by decide,Tryz.func476.trans (congrArg some (by kernel_rfl))⟩
 f27:=⟨Tryz.f477.name,by decide,Tryz.func477.trans (congrArg some (by kernel_rfl))⟩
 f28:=⟨Tryz.f478.name,by decide,Tryz.func478.trans (congrArg some (by kernel_rfl))⟩
 f29:=⟨Tryz.f479.name,by decide,Tryz.func479.trans (congrArg some (by kernel_rfl))⟩
 f31:=Tryz.func331.trans (congrArg some (by kernel_rfl))
 f32:=Tryz.func332.trans (congrArg some (by kernel_rfl))
 f36:=⟨Tryz.f483.name,by decide,Tryz.func483.trans (congrArg some (by kernel_rfl))⟩
 f37:=⟨Tryz.f484.name,by decide,Tryz.func484.trans (congrArg some (by kernel_rfl))⟩
 f38:=⟨Tryz.f485.name,by decide,Tryz.func485.trans (congrArg some (by kernel_rfl))⟩
 f39:=⟨Tryz.f486.name,by decide,Tryz.func486.trans (congrArg some (by kernel_rfl))⟩
 f41:=⟨Tryz.f487.name,by decide,Tryz.func487.trans (congrArg some (by kernel_rfl))⟩
 t0:=Tryz.underlying0
 a0:=Tryz.isAgg0
 z0:=Tryz.sizeOf0
 v0:=Tryz.zeroValue0
 t3:=Tryz.underlying3
 a3:=Tryz.isAgg3
 z3:=Tryz.sizeOf3
 v3:=Tryz.zeroValue3
 t4:=Tryz.underlying4
 a4:=Tryz.isAgg4
 z4:=Tryz.sizeOf4
 v4:=Tryz.zeroValue4
 t5:=Tryz.underlying5
 a5:=Tryz.isAgg5
 z5:=Tryz.sizeOf5
 v5:=Tryz.zeroValue5
 t9:=Tryz.underlying9
 a9:=Tryz.isAgg9
 z9:=Tryz.sizeOf9
 v9:=Tryz.zeroValue9
 t26:=Tryz.underlying23
 a26:=Tryz.isAgg23
 z26:=Tryz.sizeOf23
 v26:=Tryz.zeroValue23
 t27:=Tryz.underlying23
 a27:=Tryz.isAgg23
 z27:=Tryz.sizeOf23
 v27:=Tryz.zeroValue23
 t29:=Tryz.underlying9
 a29:=Tryz.isAgg9
 z29:=Tryz.sizeOf9
 v29:=Tryz.zeroValue9
 t32:=Tryz.underlying52
 a32:=Tryz.isAgg52
 z32:=Tryz.sizeOf52
 v32:=Tryz.zeroValue52
 t35:=Tryz.underlying415
 a35:=Tryz.isAgg415
 z35:=Tryz.sizeOf415
 v35:=Tryz.zeroValue415
 t36:=Tryz.underlying416
 a36:=Tryz.isAgg416
 z36:=Tryz.sizeOf416
 v36:=Tryz.zeroValue416
 t41:=Tryz.underlying420
 a41:=Tryz.isAgg420
 z41:=Tryz.sizeOf420
 v41:=Tryz.zeroValue420
 t44:=Tryz.underlying168
 a44:=Tryz.isAgg168
 z44:=Tryz.sizeOf168
 v44:=Tryz.zeroValue168
 t46:=Tryz.underlying92
 a46:=Tryz.isAgg92
 z46:=Tryz.sizeOf92
 v46:=Tryz.zeroValue92
 t53:=Tryz.underlying446
 a53:=Tryz.isAgg446
 z53:=Tryz.sizeOf446
 v53:=Tryz.zeroValue446
 t57:=Tryz.underlying449
 a57:=Tryz.isAgg449
 z57:=Tryz.sizeOf449
 v57:=Tryz.zeroValue449
 t63:=Tryz.underlying495
 a63:=Tryz.isAgg495
 z63:=Tryz.sizeOf495
 v63:=Tryz.zeroValue495
 t64:=Tryz.underlying496
 a64:=Tryz.isAgg496
 z64:=Tryz.sizeOf496
 v64:=Tryz.zeroValue496}
end Go.Proofs
