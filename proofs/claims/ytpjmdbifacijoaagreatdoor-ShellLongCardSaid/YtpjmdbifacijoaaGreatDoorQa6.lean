import Derived.Test.YtpjmdbifacijoaaGreatDoorQa5
/- What the law leans on, part 6. -/
namespace Go.Proofs.YtpjmdbifacijoaaGreatDoor
open Go Go.RowKit V
set_option linter.unusedVariables false
set_option maxRecDepth 100000
set_option maxHeartbeats 400000
namespace G
open V (str byC ownV ownG ownS ownOk)
theorem evst_g (wb:Nat)(W:Wc)(hL:W.L.length=4)(hth:W.thn≤4)(ev:Evt)(gl:List Kz)(gp:Option Addr)(gc:Nat)(kv:Value)(hkv:kv.oneCell'=true)(v0:thrE W ev.th=0)(i:Nat)(hi:ev.th=i)(y:ThO)(hy:W.L[i]? =some y)(hb:y.1.busy=true)(x:ArR)(hWa:W.a=some ⟨x.a,0,none⟩)(hst: -1000000000≤W.stores∧W.stores≤1000000000)(s:ArS)(xd:DvR)(v:Dev)(th n m n0:Nat)(a:AS)(hG:ArG th n x s a)(hF:FrOkW y.1.f y.2)(hF2:¬y.1.f.c.k=6→FrOk y.1.f y.2)(hH:StH th n m n0 a y.1.f)(hkk:y.1.f.c.k=2)(Z:List StoO)(zo:V.OwnO)(hzo:ownOk 14 Z.length (Z.flatMap stoC) zo)(hsv:W.sv=ownV Z.length zo)(hsp:0≤W.steps∧W.steps≤1000000000)(h7:¬(stepP a v ev.th y.1.f).2.2.1.ph=7)(w:World)(hs:Sat ([(wb,.cells (wcC (W)).toArray 108 (0,0))]::(frS y.1.f y.2++(arS x s xd.db++vS xd v))++[ownG 129 (Z.flatMap stoC) zo]) w):Calls Tryz.prog 127 [.pointer (some ⟨wb,0,none⟩),.agg (evC ev (.slice gp gl.length gc) kv).toArray].toArray w fun e w'=>∃z:ArS×FrO,(ArG th n x z.1 (stepP a v ev.th y.1.f).1∧FrOkW (stepP a v ev.th y.1.f).2.2.1 z.2∧(¬y.1.f.c.k=6→FrOk (stepP a v ev.th y.1.f).2.2.1 z.2))∧e= .returned (.int .i64 0)∧Hp ⟨w,V.ids (([(wb,.cells (wcC (W)).toArray 108 (0,0))]::(frS y.1.f y.2++(arS x s xd.db++vS xd v))++[ownG 129 (Z.flatMap stoC) zo]))⟩ (([(wb,.cells (wcC ({(actW W (stepP a v ev.th y.1.f).2.2.2) with L:=(actW W (stepP a v ev.th y.1.f).2.2.2).L.set i ((⟨y.1.busy,(stepP a v ev.th y.1.f).2.2.1,y.1.st⟩,z.2):ThO)})).toArray 108 (0,0))]::(frS (stepP a v ev.th y.1.f).2.2.1 z.2++(arS x z.1 xd.db++vS xd (stepP a v ev.th y.1.f).2.1))++[ownG 129 (Z.flatMap stoC) zo])) w':=by
 have hil:=(List.getElem?_eq_some_iff.1 hy).1
 have hL1:(actW W (stepP a v ev.th y.1.f).2.2.2).L.length=4:=by rw[actW_L];exact hL
 have hy1:(actW W (stepP a v ev.th y.1.f).2.2.2).L[i]? =some y:=by rw[actW_L];exact hy
 have hi1:i<(actW W (stepP a v ev.th y.1.f).2.2.2).L.length:=by rw[actW_L];exact hil
 obtain⟨rd,hrd⟩:=wc_drop hy
 refine V.calls ([(wb,.cells (wcC (W)).toArray 108 (0,0))]::(frS y.1.f y.2++(arS x s xd.db++vS xd v))++[ownG 129 (Z.flatMap stoC) zo]) Tryz.func127 rfl Tryz.ntmps127 (Nat.le_of_ble_eq_true rfl) hs<|Sq<|Rg<|Le XA fun b3 _=>Lv Av<|Nl<|Ps<|Sq<|Rg<|Lv Mv<|Lv (Fa 1 3)<|Lv (Ld (v:= .int .i64 ev.th))<|Le (CV fun w hw=>thread_g wb W ev.th hth w (hw.sat.pick (ss:=[[(wb,.cells (wcC (W)).toArray 108 (0,0))]]) (by repeat(first|exact .nil|apply Pick.cons|exact .here|apply Ext.there)))) fun _ _=>LW.re 12 (.tuple #[.pointer (some ⟨wb,8+i*30,none⟩),.int .i64 0]) rfl (by rw[v0,hi];rfl)<|Lv Mv<|Lv Ex<|Lv Ex<|Lv Av<|Lv Av<|Nl<|Ps<|Sq<|Sq<|Rg<|Lv Mv<|Lv Cm<|Nl<|Ps<|Cf<|Sk<|Ps<|Sq<|Sq<|Rg<|Lv Mv<|Lv Nz<|Lv (Fa 0 4)<|Lv (Ld (v:= .bool y.1.busy) (hl:=wc_get hy (j:=0) rfl))<|LW.re 21 (.bool true) rfl (by rw[hb])<|Lv Nt<|Nl<|Ps<|Cf<|Sk<|Ps<|Sq<|Dr ([[(b3,.cells (evC ev (.slice gp gl.length gc) kv).toArray 111 (0,0))]])<|Rv 0 rfl Mv<|Rv 1 rfl Mv<|Rv 2 rfl (Fa 1 3)<|Rv 3 rfl (Ld (v:= .int .i64 ev.th))<|Rv 4 rfl Mv<|Rv 5 rfl Nz<|Rv 6 rfl (Fa 1 101)<|Re 7 rfl (Eff.ofVal (La (frC y.1.f y.2) (r:=rd) (hl:=hrd))) fun _ _=>Re 8 rfl (CM (([(wb,.cells (wcC (W)).toArray 108 (0,0))]::(frS y.1.f y.2++(arS x s xd.db++vS xd v)))) fun w hw hs0=>stepped_p wb W hL x hWa hst ev.th y.1.f y.2 s xd v th n m n0 a hG hF hF2 hH hkk w hs0) fun z hz=>?_
 have hy2:((actW W (stepP a v ev.th y.1.f).2.2.2).L.set i ((⟨y.1.busy,(stepP a v ev.th y.1.f).2.2.1,y.1.st⟩,z.2):ThO))[i]? =some (⟨y.1.busy,(stepP a v ev.th y.1.f).2.2.1,y.1.st⟩,z.2):=List.getElem?_set_self hi1
 have hL2:((actW W (stepP a v ev.th y.1.f).2.2.2).L.set i ((⟨y.1.busy,(stepP a v ev.th y.1.f).2.2.1,y.1.st⟩,z.2):ThO)).length=4:=by rw[List.length_set];exact hL1
 obtain⟨ra,hra⟩:=wc_dropan (W:={(actW W (stepP a v ev.th y.1.f).2.2.2) with L:=(actW W (stepP a v ev.th y.1.f).2.2.2).L.set i ((⟨y.1.busy,(stepP a v ev.th y.1.f).2.2.1,y.1.st⟩,z.2):ThO)}) hy2
 refine Rv 9 rfl Nz<|Rv 10 rfl (Fa 1 101)<|ReN 11 rfl (Eff.storeA (cs:=frC (stepP a v ev.th y.1.f).2.2.1 z.2) (l:=wcC (actW W (stepP a v ev.th y.1.f).2.2.2)) (l':=wcC {(actW W (stepP a v ev.th y.1.f).2.2.2) with L:=(actW W (stepP a v ev.th y.1.f).2.2.2).L.set i ((⟨y.1.busy,(stepP a v ev.th y.1.f).2.2.1,y.1.st⟩,z.2):ThO)}) rfl rfl (by repeat(first|exact .here|exact .inner .here|exact .inner (.inner .here)|apply Upd.there)) (wc_spl hy1 (j:=1) (Nat.le_of_ble_eq_true rfl) (thr_f _ _ _)) (by rw[wcC_len hL1];show _+28≤_;omega) Tryz.sizeOf101 (by simp only[frC,klC,anC,lkC,List.cons_append,List.nil_append,List.all_append,List.all_cons,List.all_nil,V.ownV_one,oneS,oneI,oneB,Bool.and_true])) fun _ _=>Rd<|Ps<|Sq<|Sq<|Rg<|Lv Mv<|Lv Nz<|Lv (Fa 1 101)<|Lv (Fa 5 3)<|Lv (Ld (v:= .int .i64 (stepP a v ev.th y.1.f).2.2.1.ph) (hl:=wc_getf (W:={(actW W (stepP a v ev.th y.1.f).2.2.2) with L:=(actW W (stepP a v ev.th y.1.f).2.2.2).L.set i ((⟨y.1.busy,(stepP a v ev.th y.1.f).2.2.1,y.1.st⟩,z.2):ThO)}) hy2 (j:=5) rfl))<|Lv Cm<|Nl<|Ps ?_
 refine CW.cond rfl (fun h39=>?_) (fun h39=>?_)
 ·exact absurd (show _=_ by simpa using h39) h7
 ·replace h39:=bF h39
  refine Sk<|Ps<|Sq<|Rg<|Lv Av<|Nl<|Ps<|Rt<|Rt1 ?_
  intro w' hw;exact⟨z,hz,rfl,hw.pick (by repeat(first|exact .nil|apply Pick.cons|exact .here|apply Ext.there))⟩
theorem evst_end (wb:Nat)(W:Wc)(hL:W.L.length=4)(hth:W.thn≤4)(ev:Evt)(gl:List Kz)(gp:Option Addr)(gc:Nat)(kv:Value)(hkv:kv.oneCell'=true)(v0:thrE W ev.th=0)(i:Nat)(hi:ev.th=i)(y:ThO)(hy:W.L[i]? =some y)(hb:y.1.busy=true)(x:ArR)(hWa:W.a=some ⟨x.a,0,none⟩)(hst: -1000000000≤W.stores∧W.stores≤1000000000)(s:ArS)(xd:DvR)(v:Dev)(th n m n0:Nat)(a:AS)(hG:ArG th n x s a)(hF:FrOkW y.1.f y.2)(hF2:¬y.1.f.c.k=6→FrOk y.1.f y.2)(hH:StH th n m n0 a y.1.f)(hkk:y.1.f.c.k=2)(Z:List StoO)(zo:V.OwnO)(hzo:ownOk 14 Z.length (Z.flatMap stoC) zo)(hsv:W.sv=ownV Z.length zo)(hsp:0≤W.steps∧W.steps≤1000000000)(h7:(stepP a v ev.th y.1.f).2.2.1.ph=7)(j:Nat)(hj:y.1.st=j)(q:StoO)(hq:Z[j]? =some q)(w:World)(hs:Sat ([(wb,.cells (wcC (W)).toArray 108 (0,0))]::(frS y.1.f y.2++(arS x s xd.db++vS xd v))++[ownG 129 (Z.flatMap stoC) zo]) w):Calls Tryz.prog 127 [.pointer (some ⟨wb,0,none⟩),.agg (evC ev (.slice gp gl.length gc) kv).toArray].toArray w fun e w'=>∃z:ArS×FrO,(ArG th n x z.1 (stepP a v ev.th y.1.f).1∧FrOkW (stepP a v ev.th y.1.f).2.2.1 z.2∧(¬y.1.f.c.k=6→FrOk (stepP a v ev.th y.1.f).2.2.1 z.2))∧e= .returned (.int .i64 0)∧Hp ⟨w,V.ids (([(wb,.cells (wcC (W)).toArray 108 (0,0))]::(frS y.1.f y.2++(arS x s xd.db++vS xd v))++[ownG 129 (Z.flatMap stoC) zo]))⟩ (([(wb,.cells (wcC ({(actW W (stepP a v ev.th y.1.f).2.2.2) with L:=(actW W (stepP a v ev.th y.1.f).2.2.2).L.set i ((thr0,fo0):ThO)})).toArray 108 (0,0))]::(anS (stepP a v ev.th y.1.f).2.2.1.an z.2.so z.2.ho++(arS x z.1 xd.db++vS xd (stepP a v ev.th y.1.f).2.1))++[ownG 129 ((Z.set j ((⟨q.1.th,q.1.c,q.1.g,(stepP a v ev.th y.1.f).2.2.1.an,q.1.b,W.steps+1⟩,⟨q.2.gz,q.2.go,z.2.so,z.2.ho⟩):StoO)).flatMap stoC) zo])) w':=by
 have hjl:=(List.getElem?_eq_some_iff.1 hq).1
 obtain⟨zg,zr,zc,rfl,_⟩:=own_some3 hzo (by omega)
 have hil:=(List.getElem?_eq_some_iff.1 hy).1
 have hL1:(actW W (stepP a v ev.th y.1.f).2.2.2).L.length=4:=by rw[actW_L];exact hL
 have hy1:(actW W (stepP a v ev.th y.1.f).2.2.2).L[i]? =some y:=by rw[actW_L];exact hy
 have hi1:i<(actW W (stepP a v ev.th y.1.f).2.2.2).L.length:=by rw[actW_L];exact hil
 obtain⟨rd,hrd⟩:=wc_drop hy
 refine V.calls _ Tryz.func127 rfl Tryz.ntmps127 (Nat.le_of_ble_eq_true rfl) hs<|Sq<|Rg<|Le XA fun b3 _=>Lv Av<|Nl<|Ps<|Sq<|Rg<|Lv Mv<|Lv (Fa 1 3)<|Lv (Ld (v:= .int .i64 ev.th))<|Le (CV fun w hw=>thread_g wb W ev.th hth w (hw.sat.pick (ss:=[[(wb,.cells (wcC (W)).toArray 108 (0,0))]]) (by repeat(first|exact .nil|apply Pick.cons|exact .here|apply Ext.there)))) fun _ _=>LW.re 12 (.tuple #[.pointer (some ⟨wb,8+i*30,none⟩),.int .i64 0]) rfl (by rw[v0,hi];rfl)<|Lv Mv<|Lv Ex<|Lv Ex<|Lv Av<|Lv Av<|Nl<|Ps<|Sq<|Sq<|Rg<|Lv Mv<|Lv Cm<|Nl<|Ps<|Cf<|Sk<|Ps<|Sq<|Sq<|Rg<|Lv Mv<|Lv Nz<|Lv (Fa 0 4)<|Lv (Ld (v:= .bool y.1.busy) (hl:=wc_get hy (j:=0) rfl))<|LW.re 21 (.bool true) rfl (by rw[hb])<|Lv Nt<|Nl<|Ps<|Cf<|Sk<|Ps<|Sq<|Dr ([[(b3,.cells (evC ev (.slice gp gl.length gc) kv).toArray 111 (0,0))]])<|Rv 0 rfl Mv<|Rv 1 rfl Mv<|Rv 2 rfl (Fa 1 3)<|Rv 3 rfl (Ld (v:= .int .i64 ev.th))<|Rv 4 rfl Mv<|Rv 5 rfl Nz<|Rv 6 rfl (Fa 1 101)<|Re 7 rfl (Eff.ofVal (La (frC y.1.f y.2) (r:=rd) (hl:=hrd))) fun _ _=>Re 8 rfl (CM (([(wb,.cells (wcC (W)).toArray 108 (0,0))]::(frS y.1.f y.2++(arS x s xd.db++vS xd v)))) fun w hw hs0=>stepped_p wb W hL x hWa hst ev.th y.1.f y.2 s xd v th n m n0 a hG hF hF2 hH hkk w hs0) fun z hz=>?_
 have hy2:((actW W (stepP a v ev.th y.1.f).2.2.2).L.set i ((⟨y.1.busy,(stepP a v ev.th y.1.f).2.2.1,y.1.st⟩,z.2):ThO))[i]? =some (⟨y.1.busy,(stepP a v ev.th y.1.f).2.2.1,y.1.st⟩,z.2):=List.getElem?_set_self hi1
 have hL2:((actW W (stepP a v ev.th y.1.f).2.2.2).L.set i ((⟨y.1.busy,(stepP a v ev.th y.1.f).2.2.1,y.1.st⟩,z.2):ThO)).length=4:=by rw[List.length_set];exact hL1
 obtain⟨ra,hra⟩:=wc_dropan (W:={(actW W (stepP a v ev.th y.1.f).2.2.2) with L:=(actW W (stepP a v ev.th y.1.f).2.2.2).L.set i ((⟨y.1.busy,(stepP a v ev.th y.1.f).2.2.1,y.1.st⟩,z.2):ThO)}) hy2
 refine Rv 9 rfl Nz<|Rv 10 rfl (Fa 1 101)<|ReN 11 rfl (Eff.storeA (cs:=frC (stepP a v ev.th y.1.f).2.2.1 z.2) (l:=wcC (actW W (stepP a v ev.th y.1.f).2.2.2)) (l':=wcC {(actW W (stepP a v ev.th y.1.f).2.2.2) with L:=(actW W (stepP a v ev.th y.1.f).2.2.2).L.set i ((⟨y.1.busy,(stepP a v ev.th y.1.f).2.2.1,y.1.st⟩,z.2):ThO)}) rfl rfl (by repeat(first|exact .here|exact .inner .here|exact .inner (.inner .here)|apply Upd.there)) (wc_spl hy1 (j:=1) (Nat.le_of_ble_eq_true rfl) (thr_f _ _ _)) (by rw[wcC_len hL1];show _+28≤_;omega) Tryz.sizeOf101 (by simp only[frC,klC,anC,lkC,List.cons_append,List.nil_append,List.all_append,List.all_cons,List.all_nil,V.ownV_one,oneS,oneI,oneB,Bool.and_true])) fun _ _=>Rd<|Ps<|Sq<|Sq<|Rg<|Lv Mv<|Lv Nz<|Lv (Fa 1 101)<|Lv (Fa 5 3)<|Lv (Ld (v:= .int .i64 (stepP a v ev.th y.1.f).2.2.1.ph) (hl:=wc_getf (W:={(actW W (stepP a v ev.th y.1.f).2.2.2) with L:=(actW W (stepP a v ev.th y.1.f).2.2.2).L.set i ((⟨y.1.busy,(stepP a v ev.th y.1.f).2.2.1,y.1.st⟩,z.2):ThO)}) hy2 (j:=5) rfl))<|Lv Cm<|Nl<|Ps ?_
 refine CW.cond rfl (fun h39=>?_) (fun h39=>?_)
 ·replace h39:=bT h39
  refine Sq<|Qt<|Qv Mv<|Qv Nz<|Qv (Fa 131 106)<|Qv (Ld (v:=ownV Z.length (some (zg,zr,zc))) (hl:=by rw[wc_tl (W:={(actW W (stepP a v ev.th y.1.f).2.2.2) with L:=(actW W (stepP a v ev.th y.1.f).2.2.2).L.set i ((⟨y.1.busy,(stepP a v ev.th y.1.f).2.2.1,y.1.st⟩,z.2):ThO)}) (j:=3) hL2 rfl];exact congrArg some ((actW_s W _).2.1.trans hsv)))<|Qv Mv<|Qv Nz<|Qv (Fa 29 3)<|Qv (Ld (v:= .int .i64 y.1.st) (hl:=wc_get (W:={(actW W (stepP a v ev.th y.1.f).2.2.2) with L:=(actW W (stepP a v ev.th y.1.f).2.2.2).L.set i ((⟨y.1.busy,(stepP a v ev.th y.1.f).2.2.1,y.1.st⟩,z.2):ThO)}) hy2 (j:=29) rfl))<|QW.re 47 (.int .i64 (j:Nat)) rfl (by rw[hj])<|Qv (Val.indexAddrN (i:=j) rfl rfl Tryz.underlying106 Tryz.sizeOf129 (by omega))<|Qv Av<|Ql<|Ps<|Sq<|Dr ([[(wb,.cells (wcC ({(actW W (stepP a v ev.th y.1.f).2.2.2) with L:=(actW W (stepP a v ev.th y.1.f).2.2.2).L.set i ((⟨y.1.busy,(stepP a v ev.th y.1.f).2.2.1,y.1.st⟩,z.2):ThO)})).toArray 108 (0,0))]])<|Rv 0 rfl Mv<|Rv 1 rfl Mv<|Rv 2 rfl Mv<|Rv 3 rfl Nz<|Rv 4 rfl (Fa 1 101)<|Rv 5 rfl (Fa 22 99)<|Rv 6 rfl (La (anC (stepP a v ev.th y.1.f).2.2.1.an z.2.so z.2.ho) (r:=ra) (hl:=hra))<|Rv 7 rfl Mv<|Rv 8 rfl Nz<|Rv 9 rfl (Fa 128 3)<|Rv 10 rfl (Ld (v:= .int .i64 W.steps) (hl:=by rw[wc_tl (W:={(actW W (stepP a v ev.th y.1.f).2.2.2) with L:=(actW W (stepP a v ev.th y.1.f).2.2.2).L.set i ((⟨y.1.busy,(stepP a v ev.th y.1.f).2.2.1,y.1.st⟩,z.2):ThO)}) (j:=0) hL2 rfl];exact congrArg (fun q=>some (Value.int .i64 q)) (actW_s W _).1))<|Rv 11 rfl Ar<|Rv 12 rfl Nz<|Rv 13 rfl (Fa 6 99)<|ReN 14 rfl (Eff.storeA (cs:=(anC (stepP a v ev.th y.1.f).2.2.1.an z.2.so z.2.ho)) (l:=(Z).flatMap stoC++zr) (l':=(Z.set j ((⟨q.1.th,q.1.c,q.1.g,(stepP a v ev.th y.1.f).2.2.1.an,q.1.b,q.1.e⟩,⟨q.2.gz,q.2.go,z.2.so,z.2.ho⟩):StoO)).flatMap stoC++zr) rfl rfl (by repeat(first|exact .here|exact .inner .here|exact .inner (.inner .here)|apply Upd.there)) (spl_at (x':=((⟨q.1.th,q.1.c,q.1.g,(stepP a v ev.th y.1.f).2.2.1.an,q.1.b,q.1.e⟩,⟨q.2.gz,q.2.go,z.2.so,z.2.ho⟩):StoO)) stoC_len hq (j:=6) (Nat.le_of_ble_eq_true rfl) (by exact splice_mid0 (anC (stepP a v ev.th y.1.f).2.2.1.an z.2.so z.2.ho) (.int .i64 q.1.th::klC q.1.c (ownV q.2.gz.length q.2.go)) (anC q.1.an q.2.so q.2.ho) [.int .i64 q.1.b,.int .i64 q.1.e] rfl)) (by rw[List.length_append,V.flatMap_len stoC_len];show _+6≤_;omega) Tryz.sizeOf99 (by simp only[frC,klC,anC,lkC,List.cons_append,List.nil_append,List.all_append,List.all_cons,List.all_nil,V.ownV_one,oneS,oneI,oneB,Bool.and_true])) ?_
  intro _ _
  refine Rv 15 rfl Nz<|Rv 16 rfl (Fa 13 3)<|ReN 17 rfl (Eff.storeX (v:= .int .i64 (W.steps+1)) (l:=(Z.set j ((⟨q.1.th,q.1.c,q.1.g,(stepP a v ev.th y.1.f).2.2.1.an,q.1.b,q.1.e⟩,⟨q.2.gz,q.2.go,z.2.so,z.2.ho⟩):StoO)).flatMap stoC++zr) (l':=(Z.set j ((⟨q.1.th,q.1.c,q.1.g,(stepP a v ev.th y.1.f).2.2.1.an,q.1.b,W.steps+1⟩,⟨q.2.gz,q.2.go,z.2.so,z.2.ho⟩):StoO)).flatMap stoC++zr) rfl rfl rfl (by repeat(first|exact .here|exact .inner .here|exact .inner (.inner .here)|apply Upd.there)) (spl_set (y:=((⟨q.1.th,q.1.c,q.1.g,(stepP a v ev.th y.1.f).2.2.1.an,q.1.b,W.steps+1⟩,⟨q.2.gz,q.2.go,z.2.so,z.2.ho⟩):StoO)) stoC_len hjl (j:=13) (cs:=[.int .i64 (W.steps+1)]) (Nat.le_of_ble_eq_true rfl) rfl) (by rw[List.length_append,V.flatMap_len stoC_len,List.length_set];omega) Tryz.sizeOf3) fun _ _=>Rd<|Ps<|Rg<|Lv Mv<|Lv (Bd (thrC (thr0,fo0)) (hf:=by kernel_rfl))<|Lv Nz<|LeN (Eff.storeA (cs:=thrC (thr0,fo0)) (l:=wcC {(actW W (stepP a v ev.th y.1.f).2.2.2) with L:=(actW W (stepP a v ev.th y.1.f).2.2.2).L.set i ((⟨y.1.busy,(stepP a v ev.th y.1.f).2.2.1,y.1.st⟩,z.2):ThO)}) (l':=wcC {(actW W (stepP a v ev.th y.1.f).2.2.2) with L:=(actW W (stepP a v ev.th y.1.f).2.2.2).L.set i ((thr0,fo0):ThO)}) rfl rfl (by repeat(first|exact .here|exact .inner .here|exact .inner (.inner .here)|apply Upd.there)) (by exact wc_spl2 (W:=(actW W (stepP a v ev.th y.1.f).2.2.2)) hi1 (j:=0) (Nat.le_of_ble_eq_true rfl) (thr_all _ _)) (by rw[wcC_len hL2];show _+30≤_;omega) Tryz.sizeOf103 (by rfl)) fun _ _=>Nl<|Ps<|Sq<|Rg<|Lv Av<|Nl<|Ps<|Rt<|Rt1 ?_
  intro w' hw;exact⟨z,hz,rfl,hw.pick (ss:=([(wb,.cells (wcC ({(actW W (stepP a v ev.th y.1.f).2.2.2) with L:=(actW W (stepP a v ev.th y.1.f).2.2.2).L.set i ((thr0,fo0):ThO)})).toArray 108 (0,0))]::(anS (stepP a v ev.th y.1.f).2.2.1.an z.2.so z.2.ho++(arS x z.1 xd.db++vS xd (stepP a v ev.th y.1.f).2.1))++[ownG 129 ((Z.set j ((⟨q.1.th,q.1.c,q.1.g,(stepP a v ev.th y.1.f).2.2.1.an,q.1.b,W.steps+1⟩,⟨q.2.gz,q.2.go,z.2.so,z.2.ho⟩):StoO)).flatMap stoC) (some (zg,zr,zc))])) (by repeat(first|exact .nil|apply Pick.cons|exact .here|apply Ext.there))⟩
 ·exact absurd h7 (show ¬_=_ by simpa using h39)
def cPut:Kal:=⟨2,[97],[49],[]⟩
def aS0:AS:=⟨List.replicate (slabsF 10).toNat slbN,⟨1,[0]⟩,⟨1,0,0,[0],List.replicate 258 false,List.replicate 258 false,0⟩,[],tb0,List.replicate 4 [],[],0,0,[]⟩
def zz:Nat→AS×Dev×Frm
 |0=>(aS0,fmtV (newV 10),begF cPut [])
 |k+1=>pointA (zz k).1 (zz k).2.1 0 (zz k).2.2
theorem zzT:∀k,k≤6→(zz k).1.Tz=if k<5 then tb0 else tSet tb0 ⟨[97],1,1,2,0⟩:=by decide+kernel
theorem zzI:tInv (tSet tb0 ⟨[97],1,1,2,0⟩):=(tSet_inv tb0_inv (by decide+kernel)).1
theorem zzTI {k:Nat}(h:k≤6):tInv (zz k).1.Tz:=by
 rw[zzT k h]
 split
 ·exact tb0_inv
 ·exact zzI
theorem zzH (k:Nat)(h:k≤5):StH 1 10 890 80000 (zz k).1 (zz k).2.2:=by
 have hT:=zzTI (k:=k) (by omega)
 refine⟨⟨?_,?_,?_,?_,?_,hT,?_,?_,?_,?_,?_,?_,?_,?_⟩,?_,by decide,by decide,by decide,?_,?_,⟨?_,?_,?_,?_,?_,?_⟩,⟨?_,?_,?_,?_,?_⟩⟩
 all_goals
  clear hT
  revert k h
  first
   |(unfold Ck.Ok;decide+kernel)
   |(unfold Ck.Ph;decide+kernel)
   |(unfold plOk slOk;decide+kernel)
   |(unfold AS.Ids;decide+kernel)
   |decide+kernel
theorem zzK:∀k,k≤5→(zz k).2.2.c.k=2:=by decide+kernel
theorem zz_7:(zz 6).2.2.ph=7:=by decide+kernel
theorem zz_ne:∀k,k≤4→¬(zz (k+1)).2.2.ph=7:=by decide+kernel
theorem sat_flat {sg:V.Sg}{w:World}(h:Sat [sg.flatten] w):Sat sg w:=⟨fun p hp=>h.own p (by simpa using hp),by simpa using h.nd⟩
theorem ids_flat (sg:V.Sg):V.ids [sg.flatten]=V.ids sg:=by simp[V.ids]
theorem hp_flat {B:V.Base}{sg:V.Sg}{w:World}(h:Hp B sg w):Hp B [sg.flatten] w:=h.perm (by simp)
theorem call_fr {α:Type}{φ:α→Prop}{ve:Ending}{A sg r:V.Sg}{so:α→V.Sg}{f:FuncId}{args:Array Value}{w:World}(hs:Sat sg w)(hp:Pick A sg r)(h:Calls Tryz.prog f args w fun e w'=>∃z,φ z∧e=ve∧Hp ⟨w,V.ids A⟩ (so z) w'):Calls Tryz.prog f args w fun e w'=>∃z,φ z∧e=ve∧Hp ⟨w,V.ids sg⟩ (so z++r) w':=
 h.mono fun e w' ⟨z,h1,h2,h3⟩=>⟨z,h1,h2,(Hp.start hs).call hp h3⟩
abbrev wbO (wb:Nat)(W:Wc):V.Seg:=[(wb,.cells (wcC (W)).toArray 108 (0,0))]
def fq (j:Nat):Frm:=if 1≤j∧j≤6 then(zz (j-1)).2.2 else fr0
def tq (j:Nat)(o:FrO):ThO:=if 1≤j∧j≤6 then(⟨true,fq j,0⟩,o) else(thr0,fo0)
abbrev awT (x:ArR)(s:ArS)(xd:DvR)(v:Dev)(f:Frm)(o:FrO)(Z:List StoO)(zo:V.OwnO):V.Sg:=(frS f o++(arS x s xd.db++vS xd v))++[ownG 129 (Z.flatMap stoC) zo]
structure AwO (j:Nat)(W:Wc)(x:ArR)(s:ArS)(o:FrO)(Z:List StoO)(zo:V.OwnO):Prop where
 L:W.L=tq j o::List.replicate 3 ((thr0,fo0):ThO)
 a:W.a=some ⟨x.a,0,none⟩
 sto:W.stores=0
 st:W.steps=(j:Nat)
 thn:W.thn=1
 G:ArG 1 10 x s (zz (j-1)).1
 F:FrOk (fq j) o
 zok:ownOk 14 Z.length (Z.flatMap stoC) zo
 sv:W.sv=ownV Z.length zo
 Z0:j=0→Z=[]∧o=fo0
 Z1:1≤j→Z.length=1
def Aw (j wb:Nat)(S:V.Seg):Prop:=∃(W:Wc) (x:ArR) (s:ArS) (xd:DvR) (o:FrO) (Z:List StoO) (zo:V.OwnO),AwO j W x s o Z zo∧S=(wbO wb W::awT x s xd (zz (j-1)).2.1 (fq j) o Z zo).flatten
theorem AwO.L4 {j:Nat}{W:Wc}{x:ArR}{s:ArS}{o:FrO}{Z:List StoO}{zo:V.OwnO}(h:AwO j W x s o Z zo):W.L.length=4:=by rw[h.L];rfl
theorem AwO.up {j:Nat}{W:Wc}{x:ArR}{s:ArS}{o:FrO}{Z:List StoO}{zo:V.OwnO}(h:AwO j W x s o Z zo):thrE W 0=0:=by
 unfold thrE
 rw[h.a,h.thn];rfl
theorem AwO.at0 {j:Nat}{W:Wc}{x:ArR}{s:ArS}{o:FrO}{Z:List StoO}{zo:V.OwnO}(h:AwO j W x s o Z zo):W.L[0]? =some (tq j o):=by rw[h.L];rfl
theorem arG0 (x:ArR)(hx:x.ms.length=8):ArG 1 10 x ({ar0 1 10 0 with dn:=1}) aS0:=⟨{ar0_ok 1 10 x hx 0 (by omega) with},⟨rfl,rfl,rfl,rfl,rfl,rfl,rfl,rfl,rfl,rfl⟩,by decide⟩
theorem aw_new (w:World):Calls Tryz.prog 28 [.agg [.int .i64 10,.int .i64 1,.int .i64 0].toArray].toArray w fun e w'=>∃y:Nat×V.Seg,Aw 0 y.1 y.2∧e= .returned (.tuple #[.pointer (some ⟨y.1,0,none⟩),.int .i64 0])∧Hp ⟨w,[]⟩ [y.2] w':=
 (wnew_g 10 1 0 (by omega) (by omega) (by omega) (by omega) w).mono fun e w' ⟨z,hz,he,hw⟩=>by
  refine⟨(z.2,(wbO z.2 (newW 10 1 0 z.1.1.a z.1.2.db)::awT z.1.1 ({ar0 1 10 0 with dn:=1}) z.1.2 (zz (0-1)).2.1 (fq 0) fo0 [] none).flatten),⟨_,z.1.1,_,z.1.2,fo0,[],none,⟨rfl,rfl,rfl,rfl,rfl,arG0 z.1.1 hz,⟨rfl,⟨rfl,rfl⟩,⟨rfl,rfl⟩,⟨rfl,rfl⟩,⟨rfl,rfl⟩,⟨rfl,rfl⟩⟩,⟨rfl,rfl⟩,rfl,fun _=>⟨rfl,rfl⟩,fun h=>by omega⟩,rfl⟩,he,?_⟩
  refine hw.perm (.of_eq ?_)
  have e1:∀(T:TypeId) (xs:List Value),ownG T xs none=[]:=fun _ _=>rfl
  simp only[awT,frS,anS,fo0,e1,List.flatMap_nil,List.flatten_cons,List.flatten_append,List.flatten_nil,List.append_nil,List.nil_append]
  rfl
theorem aw_call (wb:Nat)(S:V.Seg)(hA:Aw 0 wb S)(w:World)(hs:Sat [S] w):Calls Tryz.prog 52 [.pointer (some ⟨wb,0,none⟩),.agg (evC ⟨1,0,0,cPut⟩ (.slice none 0 0) (.slice none 0 0)).toArray].toArray w fun e w'=>∃S1,Aw 1 wb S1∧e= .returned (.int .i64 0)∧Hp ⟨w,V.ids [S]⟩ [S1] w':=by
 obtain⟨W,x,s,xd,o,Z,zo,h,rfl⟩:=hA
 obtain⟨rfl,rfl⟩:=h.Z0 rfl
 have hs1:=sat_flat hs
 rw[ids_flat]
 have hy:W.L[0]? =some (thr0,fo0):=h.at0
 refine(do_any (α:=(List Kz×V.OwnO)×(List Kz×V.OwnO)×V.OwnO) _ (fun z=>{W with L:=W.L.set 0 (cThr ⟨1,0,0,cPut⟩ z.1 (([]:List StoO).length:Nat)),sv:=ownV (([]:List StoO).length+1) z.2.2}) _ 0 wb W h.L4 ⟨1,0,0,cPut⟩ [] none 0 (.slice none 0 0) rfl 1 rfl (by omega) _ (fun z _=>⟨by simp[h.L],by rw[h.st];exact⟨by omega,by omega⟩⟩) w hs1 (fun w1 hb hs2=>call_fr hs2 (A:=[wbO wb W,ownG 129 (([]:List StoO).flatMap stoC) zo]) (by repeat(first|exact .nil|apply Pick.cons|exact .here|apply Ext.there))
  (call_g wb W h.L4 (by rw[h.thn];omega) ⟨1,0,0,cPut⟩ [] none 0 (.slice none 0 0) rfl h.up 0 rfl (thr0,fo0) hy rfl [] zo h.zok h.sv (by simp) (by rw[h.st];exact⟨by omega,by omega⟩) (by simp) w1 (.inl rfl) (fun b o e=>by cases e) (hs2.pick (by repeat(first|exact .nil|apply Pick.cons|exact .here|apply Ext.there)))))).mono ?_
 rintro e w' ⟨z,⟨h1,h2,h3,h4,h5⟩,he,hw⟩
 obtain⟨⟨z1,z1o⟩,⟨z2,z2o⟩,z3⟩:=z
 simp only[List.map_nil,List.map_eq_nil_iff] at h1 h3
 subst h1 h3
 rw[if_pos rfl] at hw
 refine⟨_,⟨{W with L:=W.L.set 0 (cThr ⟨1,0,0,cPut⟩ ([],z1o) (0:Nat)),sv:=ownV 1 z3,steps:=W.steps+1},x,s,xd,{fo0 with gz:=[],go:=z1o},[cSto ⟨1,0,0,cPut⟩ ([],z2o) (W.steps+1)],z3,⟨?_,h.a,h.sto,?_,h.thn,h.G,⟨rfl,h2,⟨rfl,rfl⟩,⟨rfl,rfl⟩,⟨rfl,rfl⟩,⟨rfl,rfl⟩⟩,h5,rfl,fun h=>by omega,fun _=>rfl⟩,rfl⟩,he,?_⟩
 rotate_left 2
 ·exact hp_flat (hw.pick (by repeat(first|exact .nil|apply Pick.cons|exact .here|apply Ext.there)))
 ·show W.L.set 0 _=_
  rw[h.L];rfl
 ·show W.steps+1=_
  rw[h.st];rfl
theorem aw_step (k wb:Nat)(S:V.Seg)(hk:k≤4)(hA:Aw (k+1) wb S)(w:World)(hs:Sat [S] w):Calls Tryz.prog 52 [.pointer (some ⟨wb,0,none⟩),.agg (evC ⟨2,0,0,kal0⟩ (.slice none 0 0) (.slice none 0 0)).toArray].toArray w fun e w'=>∃S1,Aw (k+2) wb S1∧e= .returned (.int .i64 0)∧Hp ⟨w,V.ids [S]⟩ [S1] w':=by
 obtain⟨W,x,s,xd,o,Z,zo,h,rfl⟩:=hA
 have hs1:=sat_flat hs
 have hf:fq (k+1)=(zz k).2.2:=if_pos ⟨by omega,by omega⟩
 have ht:tq (k+1) o=(⟨true,(zz k).2.2,0⟩,o):=by unfold tq;rw[if_pos ⟨by omega,by omega⟩,hf]
 rw[ids_flat]
 rw[hf,Nat.add_sub_cancel] at hs1⊢
 have hy:W.L[0]? =some (⟨true,(zz k).2.2,0⟩,o):=h.at0.trans (congrArg some ht)
 have hG:=h.G
 rw[Nat.add_sub_cancel] at hG
 have hF:=h.F
 rw[hf] at hF
 have hsb:0≤W.steps∧W.steps≤1000000000:=by rw[h.st];exact⟨by omega,by omega⟩
 have hac:actW W 0=W:=if_neg (by decide)
 have hf2:fq (k+1+1)=(zz (k+1)).2.2:=if_pos ⟨by omega,by omega⟩
 have ht2:∀o',tq (k+1+1) o'=(⟨true,(zz (k+1)).2.2,0⟩,o'):=fun o'=>by unfold tq;rw[if_pos ⟨by omega,by omega⟩,hf2]
 refine(do_any (α:=ArS×FrO) (fun z=>ArG 1 10 x z.1 (zz (k+1)).1∧FrOkW (zz (k+1)).2.2 z.2∧(¬(zz k).2.2.c.k=6→FrOk (zz (k+1)).2.2 z.2)) (fun z=>{W with L:=W.L.set 0 ((⟨true,(zz (k+1)).2.2,0⟩,z.2):ThO)}) (fun z=>(frS (zz (k+1)).2.2 z.2++(arS x z.1 xd.db++vS xd (zz (k+1)).2.1))++[ownG 129 (Z.flatMap stoC) zo]) 0 wb W h.L4 ⟨2,0,0,kal0⟩ [] none 0 (.slice none 0 0) rfl 2 rfl (by omega) _ (fun z _=>⟨by simp[h.L],hsb⟩) w hs1 (fun w1 hb hs2=>?_)).mono ?_
 ·have h9:=evst_g wb W h.L4 (by rw[h.thn];omega) ⟨2,0,0,kal0⟩ [] none 0 (.slice none 0 0) rfl h.up 0 rfl _ hy rfl x h.a (by rw[h.sto];omega) s xd (zz k).2.1 1 10 890 80000 (zz k).1 hG hF.w (fun _=>hF) (zzH k (by omega)) (zzK k (by omega)) Z zo h.zok h.sv hsb (zz_ne k hk) w1 hs2
  rw[show(stepP (zz k).1 (zz k).2.1 0 (zz k).2.2).2.2.2=0 from rfl,hac] at h9
  exact h9
 ·rintro e w' ⟨z,⟨h1,_,h3⟩,he,hw⟩
  have h3:=h3 (by rw[zzK k (by omega)];decide)
  rw[if_pos rfl] at hw
  refine⟨_,⟨{W with L:=W.L.set 0 ((⟨true,(zz (k+1)).2.2,0⟩,z.2):ThO),steps:=W.steps+1},x,z.1,xd,z.2,Z,zo,⟨?_,h.a,h.sto,?_,h.thn,h1,by rw[hf2];exact h3,h.zok,h.sv,fun h=>by omega,fun _=>h.Z1 (by omega)⟩,rfl⟩,he,?_⟩
  rotate_left 2
  ·rw[hf2];exact hp_flat hw
  ·show W.L.set 0 _=_
   rw[h.L,ht2];rfl
  ·show W.steps+1=_
   rw[h.st];rfl
theorem aw_fin (k wb:Nat)(S:V.Seg)(hk:k=5)(hA:Aw (k+1) wb S)(w:World)(hs:Sat [S] w):Calls Tryz.prog 52 [.pointer (some ⟨wb,0,none⟩),.agg (evC ⟨2,0,0,kal0⟩ (.slice none 0 0) (.slice none 0 0)).toArray].toArray w fun e w'=>∃S1,Aw 7 wb S1∧e= .returned (.int .i64 0)∧Hp ⟨w,V.ids [S]⟩ [S1] w':=by
 obtain⟨W,x,s,xd,o,Z,zo,h,rfl⟩:=hA
 have hs1:=sat_flat hs
 have hf:fq (k+1)=(zz k).2.2:=if_pos ⟨by omega,by omega⟩
 have ht:tq (k+1) o=(⟨true,(zz k).2.2,0⟩,o):=by unfold tq;rw[if_pos ⟨by omega,by omega⟩,hf]
 rw[ids_flat]
 rw[hf,Nat.add_sub_cancel] at hs1⊢
 have hy:W.L[0]? =some (⟨true,(zz k).2.2,0⟩,o):=h.at0.trans (congrArg some ht)
 have hG:=h.G
 rw[Nat.add_sub_cancel] at hG
 have hF:=h.F
 rw[hf] at hF
 have hsb:0≤W.steps∧W.steps≤1000000000:=by rw[h.st];exact⟨by omega,by omega⟩
 have hac:actW W 0=W:=if_neg (by decide)
 obtain⟨q,hq⟩:∃q,Z[0]? =some q:=⟨Z[0]'(by have:=h.Z1 (by omega);omega),by simp⟩
 refine(do_any (α:=ArS×FrO) (fun z=>ArG 1 10 x z.1 (zz (k+1)).1) (fun z=>{W with L:=W.L.set 0 ((thr0,fo0):ThO)}) (fun z=>(anS (zz (k+1)).2.2.an z.2.so z.2.ho++(arS x z.1 xd.db++vS xd (zz (k+1)).2.1))++[ownG 129 ((Z.set 0 ((⟨q.1.th,q.1.c,q.1.g,(zz (k+1)).2.2.an,q.1.b,W.steps+1⟩,⟨q.2.gz,q.2.go,z.2.so,z.2.ho⟩):StoO)).flatMap stoC) zo]) 0 wb W h.L4 ⟨2,0,0,kal0⟩ [] none 0 (.slice none 0 0) rfl 2 rfl (by omega) _ (fun z _=>⟨by simp[h.L],hsb⟩) w hs1 (fun w1 hb hs2=>?_)).mono ?_
 ·have h9:=evst_end wb W h.L4 (by rw[h.thn];omega) ⟨2,0,0,kal0⟩ [] none 0 (.slice none 0 0) rfl h.up 0 rfl _ hy rfl x h.a (by rw[h.sto];omega) s xd (zz k).2.1 1 10 890 80000 (zz k).1 hG hF.w (fun _=>hF) (zzH k (by omega)) (zzK k (by omega)) Z zo h.zok h.sv hsb (by subst hk;exact zz_7) 0 rfl q hq w1 hs2
  rw[show(stepP (zz k).1 (zz k).2.1 0 (zz k).2.2).2.2.2=0 from rfl,hac] at h9
  exact h9.mono fun e w' ⟨z,h1,h2,h3⟩=>⟨z,h1.1,h2,h3⟩
 ·rintro e w' ⟨z,h1,he,hw⟩
  rw[if_pos rfl] at hw
  subst hk
  have hzl:(Z.set 0 ((⟨q.1.th,q.1.c,q.1.g,(zz (5+1)).2.2.an,q.1.b,W.steps+1⟩,⟨q.2.gz,q.2.go,z.2.so,z.2.ho⟩):StoO)).length=Z.length:=by simp
  refine⟨_,⟨{W with L:=W.L.set 0 ((thr0,fo0):ThO),steps:=W.steps+1},x,z.1,xd,fo0,Z.set 0 ((⟨q.1.th,q.1.c,q.1.g,(zz (5+1)).2.2.an,q.1.b,W.steps+1⟩,⟨q.2.gz,q.2.go,z.2.so,z.2.ho⟩):StoO),zo,⟨?_,h.a,h.sto,?_,h.thn,h1,⟨rfl,⟨rfl,rfl⟩,⟨rfl,rfl⟩,⟨rfl,rfl⟩,⟨rfl,rfl⟩,⟨rfl,rfl⟩⟩,?_,by rw[hzl];exact h.sv,fun h=>by omega,fun _=>by rw[hzl];exact h.Z1 (by omega)⟩,rfl⟩,he,?_⟩
  rotate_left 3
  ·have h8:=hw.pick (ss:=wbO wb _::((arS x z.1 xd.db++vS xd (zz (5+1)).2.1)++[ownG 129 ((Z.set 0 ((⟨q.1.th,q.1.c,q.1.g,(zz (5+1)).2.2.an,q.1.b,W.steps+1⟩,⟨q.2.gz,q.2.go,z.2.so,z.2.ho⟩):StoO)).flatMap stoC) zo])) (by repeat(first|exact .nil|apply Pick.cons|exact .here|apply Ext.there))
   refine(hp_flat h8).perm (.of_eq ?_)
   have e1:∀(T:TypeId) (xs:List Value),ownG T xs none=[]:=fun _ _=>rfl
   have e2:fq (5+1+1)=fr0:=rfl
   simp only[awT,frS,anS,fo0,e1,e2,List.flatMap_nil,List.flatten_cons,List.flatten_append,List.flatten_nil,List.append_nil,List.nil_append]
  ·show W.L.set 0 _=_
   rw[h.L];rfl
  ·show W.steps+1=_
   rw[h.st];rfl
  ·have hl:((Z.set 0 ((⟨q.1.th,q.1.c,q.1.g,(zz (5+1)).2.2.an,q.1.b,W.steps+1⟩,⟨q.2.gz,q.2.go,z.2.so,z.2.ho⟩):StoO)).flatMap stoC).length=(Z.flatMap stoC).length:=by rw[V.flatMap_len stoC_len,V.flatMap_len stoC_len,hzl]
   have h8:=h.zok
   unfold ownOk at h8⊢
   rw[hl,hzl]
   exact h8
theorem wdur_on (wb:Nat)(W:Wc)(x:ArR)(hWa:W.a=some ⟨x.a,0,none⟩)(s:ArS)(db:Nat)(c:Ck)(hc:s.ck=ckk x.cb c)(w:World)(hs:Sat ([(wb,.cells (wcC (W)).toArray 108 (0,0))]::arS x s db) w):Calls Tryz.prog 64 [.pointer (some ⟨wb,0,none⟩)].toArray w fun e w'=>e= .returned (.int .u64 c.dur)∧Below w.heap.size w w':=by
 refine V.calls ([(wb,.cells (wcC (W)).toArray 108 (0,0))]::arS x s db) Tryz.func64 rfl Tryz.ntmps64 (Nat.le_of_ble_eq_true rfl) hs<|Sq<|Rg<|Lv Av<|Nl<|Ps<|Sq<|Rg<|Lv Mv<|Le (CV fun w hw=>wstore_g wb W w (hw.sat.pick (ss:=[[(wb,.cells (wcC (W)).toArray 108 (0,0))]]) (by repeat(first|exact .nil|apply Pick.cons|exact .here|apply Ext.there)))) fun _ _=>LW.re 4 (.pointer (some ⟨x.a,0,none⟩)) rfl (by rw[hWa])<|Le (CV fun w hw=>aclock_g x s w hw.at) fun _ _=>Le (CV fun w hw=>kdur_g x.cb x.wb c w (by have h8:=hw.sat.pick (ss:=ckS x.cb x.wb s.ck) (by repeat(first|exact .nil|apply Pick.cons|exact .here|apply Ext.there));rw[hc] at h8;exact h8)) fun _ _=>Lv Av<|Nl<|Ps<|Rt<|Rt1 ?_
 intro w' hw;exact⟨rfl,hw.ro (by repeat(first|exact .nil|apply Pick.cons|exact .here|apply Ext.there)) hs⟩
theorem wsto_g (wb:Nat)(W:Wc)(hL:W.L.length=4)(w:World)(hs:Sat [[(wb,.cells (wcC (W)).toArray 108 (0,0))]] w):Calls Tryz.prog 67 [.pointer (some ⟨wb,0,none⟩)].toArray w fun e w'=>e= .returned (.int .i64 W.stores)∧Below w.heap.size w w':=by
 refine V.calls [[(wb,.cells (wcC (W)).toArray 108 (0,0))]] Tryz.func67 rfl Tryz.ntmps67 (Nat.le_of_ble_eq_true rfl) hs<|Sq<|Rg<|Lv Av<|Nl<|Ps<|Sq<|Sq<|Rg<|Lv Mv<|Lv EP<|Nl<|Ps<|Cf<|Sk<|Ps<|Sq<|Rg<|Lv Mv<|Lv Nz<|Lv (Fa 129 3)<|Lv (Ld (v:= .int .i64 W.stores) (hl:=wc_tl (j:=1) hL rfl))<|Lv Av<|Nl<|Ps<|Rt<|Rt1 ?_
 intro w' hw;exact⟨rfl,hw.ro (by repeat(first|exact .nil|apply Pick.cons|exact .here|apply Ext.there)) hs⟩
theorem aw_idle (wb:Nat)(S:V.Seg)(hA:Aw 7 wb S)(w:World)(hs:Sat [S] w):Calls Tryz.prog 52 [.pointer (some ⟨wb,0,none⟩),.agg (evC ⟨2,0,0,kal0⟩ (.slice none 0 0) (.slice none 0 0)).toArray].toArray w fun e w'=>∃_u:Unit,True∧e= .returned (.int .i64 12)∧Hp ⟨w,V.ids [S]⟩ [S] w':=by
 obtain⟨W,x,s,xd,o,Z,zo,h,rfl⟩:=hA
 have hs1:=sat_flat hs
 rw[ids_flat]
 have he:stepE W 0=12:=by
  unfold stepE busyW
  rw[h.up,show((0:Int).toNat)=0 from rfl,h.at0];rfl
 refine(do_any (α:=Unit) (fun _=>True) (fun _=>W) (fun _=>awT x s xd (zz (7-1)).2.1 (fq 7) o Z zo) 12 wb W h.L4 ⟨2,0,0,kal0⟩ [] none 0 (.slice none 0 0) rfl 2 rfl (by omega) _ (fun z _=>⟨h.L4,by rw[h.st];exact⟨by omega,by omega⟩⟩) w hs1 (fun w1 hb hs2=>?_)).mono ?_
 ·exact(evstep_no wb W h.L4 (by rw[h.thn];omega) ⟨2,0,0,kal0⟩ [] none 0 (.slice none 0 0) rfl (by rw[show(⟨2,0,0,kal0⟩:Evt).th=0 from rfl,he];decide) w1 (hs2.pick (by repeat(first|exact .nil|apply Pick.cons|exact .here|apply Ext.there)))).mono fun e w' ⟨h1,h2⟩=>⟨(),trivial,by rw[h1,show(⟨2,0,0,kal0⟩:Evt).th=0 from rfl,he],(Hp.start hs2).call_ro h2⟩
 ·rintro e w' ⟨_,_,h1,hw⟩
  exact⟨(),trivial,h1,hp_flat hw⟩
theorem zzS:pairsOf (zz 6).2.1.D [⟨[97],1,1,2,0⟩]=[([97],[49])]∧tLinks (tSet tb0 ⟨[97],1,1,2,0⟩)=[⟨[97],1,1,2,0⟩]∧(zz 6).1.q=[]∧(zz 6).1.ck.now=1∧(zz 6).1.ck.dur=0∧(zz 6).2.1.D.length=10:=by decide+kernel
theorem aw_shelf (wb:Nat)(S:V.Seg)(hA:Aw 7 wb S)(w:World)(hs:Sat [S] w):Calls Tryz.prog 60 [.pointer (some ⟨wb,0,none⟩)].toArray w fun e w'=>∃y:V.OwnO×V.OwnO,(ownOk 2 1 (prC ([97],[49])) y.1∧ownOk 1 0 [] y.2)∧e= .returned (.agg #[ownV 1 y.1,ownV 0 y.2])∧Hp ⟨w,[]⟩ [ownG 122 (prC ([97],[49])) y.1,ownG 9 [] y.2] w':=by
 obtain⟨W,x,s,xd,o,Z,zo,h,rfl⟩:=hA
 have hs1:=sat_flat hs
 obtain⟨z1,z2,z3,z4,z5,z6⟩:=zzS
 have hT:s.Tz=tSet tb0 ⟨[97],1,1,2,0⟩:=by rw[h.G.is.Tz];exact(zzT 6 (by omega)).trans (if_neg (by omega))
 have hq:rgQ s.rg=[]:=h.G.is.q.trans z3
 refine(wshelf_on wb W x h.a s xd (zz 6).2.1 1 (by rw[z6];exact h.G.ok) (by rw[hT];exact zzI.st) (by rw[hT,z2];decide) (by rw[hq];decide) ⟨by rw[hT,z2];decide,by rw[hq];decide⟩ w (hs1.pick (by repeat(first|exact .nil|apply Pick.cons|exact .here|apply Ext.there)))).mono ?_
 rintro e w' ⟨⟨y1,y2,y3⟩,⟨⟨h1,_⟩,h3,h4⟩,he,hw⟩
 rw[hT,z2] at h1
 obtain rfl:y1=_:=List.perm_singleton.1 h1
 rw[hq] at h4 he hw
 simp only[z1] at h3 he hw
 exact⟨(y2,y3),⟨h3,h4⟩,he,hw⟩
theorem aw_now (wb:Nat)(S:V.Seg)(hA:Aw 7 wb S)(w:World)(hs:Sat [S] w):Calls Tryz.prog 63 [.pointer (some ⟨wb,0,none⟩)].toArray w fun e w'=>e= .returned (.int .u64 (1:Nat))∧Below w.heap.size w w':=by
 obtain⟨W,x,s,xd,o,Z,zo,h,rfl⟩:=hA
 refine(wnow_on wb W x h.a s xd.db (zz 6).1.ck h.G.is.ck w ((sat_flat hs).pick (by repeat(first|exact .nil|apply Pick.cons|exact .here|apply Ext.there)))).mono fun e w' ⟨h1,h2⟩=>⟨by rw[h1,zzS.2.2.2.1];rfl,h2⟩
theorem aw_dur (wb:Nat)(S:V.Seg)(hA:Aw 7 wb S)(w:World)(hs:Sat [S] w):Calls Tryz.prog 64 [.pointer (some ⟨wb,0,none⟩)].toArray w fun e w'=>e= .returned (.int .u64 (0:Nat))∧Below w.heap.size w w':=by
 obtain⟨W,x,s,xd,o,Z,zo,h,rfl⟩:=hA
 refine(wdur_on wb W x h.a s xd.db (zz 6).1.ck h.G.is.ck w ((sat_flat hs).pick (by repeat(first|exact .nil|apply Pick.cons|exact .here|apply Ext.there)))).mono fun e w' ⟨h1,h2⟩=>⟨by rw[h1,zzS.2.2.2.2.1];rfl,h2⟩
theorem aw_steps (wb:Nat)(S:V.Seg)(hA:Aw 7 wb S)(w:World)(hs:Sat [S] w):Calls Tryz.prog 66 [.pointer (some ⟨wb,0,none⟩)].toArray w fun e w'=>e= .returned (.int .i64 (7:Nat))∧Below w.heap.size w w':=by
 obtain⟨W,x,s,xd,o,Z,zo,h,rfl⟩:=hA
 refine(wsteps_g wb W h.L4 w ((sat_flat hs).pick (by repeat(first|exact .nil|apply Pick.cons|exact .here|apply Ext.there)))).mono fun e w' ⟨h1,h2⟩=>⟨by rw[h1,h.st],h2⟩
theorem aw_sto (wb:Nat)(S:V.Seg)(hA:Aw 7 wb S)(w:World)(hs:Sat [S] w):Calls Tryz.prog 67 [.pointer (some ⟨wb,0,none⟩)].toArray w fun e w'=>e= .returned (.int .i64 (0:Nat))∧Below w.heap.size w w':=by
 obtain⟨W,x,s,xd,o,Z,zo,h,rfl⟩:=hA
 refine(wsto_g wb W h.L4 w ((sat_flat hs).pick (by repeat(first|exact .nil|apply Pick.cons|exact .here|apply Ext.there)))).mono fun e w' ⟨h1,h2⟩=>⟨by rw[h1,h.sto];rfl,h2⟩
end G
end Go.Proofs.YtpjmdbifacijoaaGreatDoor
namespace Go.Proofs.YtpjmdbifacijoaaGreatDoor
open Go Go.RowKit V
set_option linter.unusedVariables false
set_option maxRecDepth 100000
namespace G
open V (str byC ownV ownG ownS ownOk)
instance:Und Tryz.prog 35 (dOf Tryz.underlying35):=⟨Tryz.underlying35⟩
instance:Zer Tryz.prog 35 (zOf Tryz.zeroValue35):=⟨Tryz.zeroValue35⟩
instance:Cal Tryz.prog 58:=⟨Tryz.call58⟩
instance:Cal Tryz.prog 60:=⟨Tryz.call60⟩
instance:Cal Tryz.prog 61:=⟨Tryz.call61⟩
instance:Cal Tryz.prog 62:=⟨Tryz.call62⟩
instance:Cal Tryz.prog 63:=⟨Tryz.call63⟩
instance:Cal Tryz.prog 64:=⟨Tryz.call64⟩
instance:Cal Tryz.prog 65:=⟨Tryz.call65⟩
instance:Cal Tryz.prog 66:=⟨Tryz.call66⟩
instance:Cal Tryz.prog 67:=⟨Tryz.call67⟩
def inN (i:Nat):List Value:=[.int .i64 (i:Nat)]
def rowF (l:List Nat):List UInt8:=Go.Lib.join (l.map smallF) [32]
theorem row_take {l:List Nat}{k x:Nat}(h:l[k]? =some x):(l.take (k+1)).map smallF=(l.take k).map smallF++[smallF x]:=by
 rw[List.take_add_one,h,List.map_append];rfl
theorem join_n (xs:List (List UInt8))(o:V.OwnO)(sep:List UInt8)(n:Nat)(hn:xs.length=n)(hok:ownOk 1 n (xs.flatMap lineV) o)(hN:n≤100000)(hlen:(Go.Lib.join xs sep).length≤140737488355328)(w:World)(hs:Sat [ownG 9 (xs.flatMap lineV) o] w):Calls Tryz.prog 61 [ownV n o,str sep].toArray w fun e w'=>e= .returned (str (Go.Lib.join xs sep))∧Below w.heap.size w w':=by
 subst hn
 exact join_g xs o sep hok hN hlen w hs
theorem row_g (l:List Nat)(hl:l.length≤100)(hs8:∀x∈l,x<100)(p:Option Addr)(c:Nat)(hj:(rowF l).length≤140737488355328)(w:World)(h:V.slAt w p 1 inN l):Calls Tryz.prog 65 [.slice p l.length c].toArray w fun e w'=>e= .returned (str (rowF l))∧Below w.heap.size w w':=by
 refine V.calls [] Tryz.func65 rfl Tryz.ntmps65 (Nat.le_of_ble_eq_true rfl) (V.sat_nil _)<|Sq<|Rg<|Lv Av<|Nl<|Ps<|Sq<|Rg<|Lv Av<|Nl<|Ps<|Sq<|Sq<|Rg<|Lv Mv<|Lv Ln<|Lv Mv<|Nl<|Ps<|Bk<|nilSeg<|loopA (γ:=Nat×V.OwnO) (fun k=>[(6,.slice p l.length c),(3,ownV k.1 k.2),(7,.int .i64 (l.length:Nat)),(8,.int .i64 (k.1:Nat))]) (fun k=>[ownG 9 ((((l.take k.1).map smallF)).flatMap lineV) k.2]) (fun k=>k.1≤l.length∧ownOk 1 ((l.take k.1).map smallF).length (((l.take k.1).map smallF).flatMap lineV) k.2) (fun k=>l.length-k.1) ((0,none)) ⟨Nat.zero_le _,⟨rfl,rfl⟩⟩ fun k=>?_
 rintro⟨hk1,hk2⟩
 refine Sq<|Rg<|Lv Cm<|Nl<|Ps<|Sq ?_
 refine CW.cond rfl (fun h9=>?_) (fun h9=>?_)
 ·replace h9:=bT h9
  have hk9:k.1<l.length:=by omega
  obtain⟨bb1,o1,x,rfl,hb1,hx1,hr1⟩:=V.slAt_at h rfl (k:=k.1) hk9
  have hx2:=hs8 x (List.mem_of_getElem? hx1)
  refine Sk<|Ps<|Sq<|Bk<|Sq<|Rg<|Lv Ix<|Lv (Val.loadO rfl Tryz.isAgg3 hb1 (by simp[V.ids]) (hr1 k.1 x hx1 0 _ rfl))<|Lv Av<|Nl<|Ps<|Rg<|Lv Mv<|Lv Mv<|Le (CV fun w hw=>itoa_g x hx2 w) fun _ _=>Le (Eff.buildSlice (rfl) [_] Tryz.underlying23 Tryz.sizeOf9 (by exact Tryz.zeroValue9) rfl rfl rfl rfl (by rfl)) fun b15 _=>Le (Eff.appendAny (lineV (smallF x)) (sz:=1) (bytes:=16) (z:= .string ⟨#[]⟩) (xs:=((l.take k.1).map smallF).flatMap lineV) (m0:=k.1) (o:=k.2) (m:=1) (pk:=[ownG 9 (((l.take k.1).map smallF).flatMap lineV) (k.2)]) rfl rfl Tryz.underlying23 (by kernel_rfl) rfl (by omega) (by repeat(first|exact .nil|apply Pick.cons|exact .here|apply Ext.there)) (by simp) (by have h9:=hk2;rwa [List.length_map,List.length_take,Nat.min_eq_left (by omega)] at h9) (by rfl) (fun hm0=>⟨b15,0,rfl,fun w hw=>V.range_of_block (o:=0) (cs:=lineV (smallF x)) (r:=[]) (hw.own _ (show InS (b15,.cells (lineV (smallF x)).toArray 9 (0,0)) _ from(by repeat(first|exact .here|exact .inner .here|exact .inner (.inner .here)|refine .there ?_))).mem) rfl⟩) (by rfl) (by omega) (by omega)) fun o2 ho2=>Lv Av<|Nl<|Bn<|Ps<|Rg<|Lv Ar<|Lv Mv<|Nl ?_
  rw[show((l.take k.1).map smallF).flatMap lineV++lineV (smallF x)=((l.take (k.1+1)).map smallF).flatMap lineV by rw[row_take hx1,List.flatMap_append];rfl]
  exact roundA ((k.1+1,o2)) ⟨by simp only;omega,by simp only;rw[row_take hx1,List.flatMap_append,List.length_append,List.length_map,List.length_take,Nat.min_eq_left (by omega)];exact ho2⟩ (by simp only;omega)
 ·replace h9:=bF h9
  obtain⟨k1,po⟩:=k
  have hk9:k1=l.length:=by simp only at hk1 h9;omega
  subst hk9
  simp only[List.take_length] at hk2⊢
  refine Xt<|Te<|Te<|Bh<|Ps<|Sq<|Rg<|Lv Mv<|Le (CV fun w hw=>join_n (l.map smallF) po [32] l.length (by simp) (by rwa [List.length_map] at hk2) (by omega) hj w (hw.sat.pick (by repeat(first|exact .nil|apply Pick.cons|exact .here|apply Ext.there)))) fun _ _=>Lv Av<|Nl<|Ps<|Rt<|Rt1 ?_
  intro w' hw;exact⟨rfl,hw.below⟩
def pairL (kk vv:List UInt8):List UInt8:=kk++[61]++vv
theorem shelf1_g (sb wb:Nat)(S:V.Seg)(kk vv:List UInt8)(hS:∀w:World,Sat [S] w→Calls Tryz.prog 60 [.pointer (some ⟨wb,0,none⟩)].toArray w fun e w'=>∃y:V.OwnO×V.OwnO,(ownOk 2 1 (prC (kk,vv)) y.1∧ownOk 1 0 [] y.2)∧e= .returned (.agg #[ownV 1 y.1,ownV 0 y.2])∧Hp ⟨w,[]⟩ [ownG 122 (prC (kk,vv)) y.1,ownG 9 [] y.2] w')(hkv:kk.length≤100000∧vv.length≤100000)(hj:(Go.Lib.join [pairL kk vv,[47]] [32]).length≤140737488355328)(w:World)(hs:Sat [[(sb,.cells [.pointer (some ⟨wb,0,none⟩)].toArray 35 (0,0))],S] w):Calls Tryz.prog 34 [.pointer (some ⟨sb,0,none⟩)].toArray w fun e w'=>e= .returned (str (Go.Lib.join [pairL kk vv,[47]] [32]))∧Below w.heap.size w w':=by
 refine V.calls [[(sb,.cells [.pointer (some ⟨wb,0,none⟩)].toArray 35 (0,0))],S] Tryz.func34 rfl Tryz.ntmps34 (Nat.le_of_ble_eq_true rfl) hs<|Sq<|Rg<|Lv Av<|Nl<|Ps<|Sq<|Rg<|Lv Mv<|Lv Nz<|Lv (Fa 0 33)<|Lv (Ld (v:= .pointer (some ⟨wb,0,none⟩)))<|Le (CM [] fun w hw hs0=>hS w (hw.sat.pick (ss:=[S]) (by repeat(first|exact .nil|apply Pick.cons|exact .here|apply Ext.there)))) fun y hy=>?_
 obtain⟨y1,qo⟩:=y
 obtain⟨hy1,hy2⟩:=hy
 simp only at hy1 hy2
 obtain⟨g,rest,cap,rfl,hcp⟩:=own_some3 hy1 (by omega)
 obtain⟨pq,cq,hvq⟩:∃p c,ownV 0 qo= .slice p 0 c:=by rcases qo with _|⟨a,b,c⟩<;>exact⟨_,_,rfl⟩
 refine Le AA fun b3 _=>LeN (StW (cs:=[ownV 1 (some (g,rest,cap)),ownV 0 qo]) (h1:=by simp[V.ownV_one])) fun _ _=>Nl<|Ps<|Sq<|Rg<|Lv Av<|Nl<|Ps<|Sq<|Sq<|Rg<|Lv (Fa 0 96)<|Lv (Ld (v:=ownV 1 (some (g,rest,cap))))<|Lv Ln<|LW.re 14 (.int .i64 1) rfl (by rfl)<|Lv Mv<|Nl<|Ps<|Bk<|CW.loopU 1<|Sq<|Rg<|Lv Cm<|LW.re 16 (.bool true) rfl (by rfl)<|Nl<|Ps<|Sq<|Ct<|Sk<|Ps<|Sq<|Bk<|Sq<|Rg<|Lv (Val.indexAddrN (i:=0) rfl rfl Tryz.underlying96 Tryz.sizeOf122 (by omega))<|Lv (La (prC (kk,vv)) (r:=rest) (hl:=by rfl))<|Le AA fun b6_0 _=>LeN (StW (cs:=prC (kk,vv))) fun _ _=>Nl<|Ps<|Rg<|Lv Mv<|Lv (Fa 0 9)<|Lv (Ld (v:=str kk))<|Lv (Val.catStr rfl rfl (by first|omega|(simp only[List.length_append,List.length_cons,List.length_nil];omega)))<|Lv (Fa 1 9)<|Lv (Ld (v:=str vv))<|Lv (Val.catStr rfl rfl (by first|omega|(simp only[List.length_append,List.length_cons,List.length_nil];omega)))<|Le (Eff.buildSlice (rfl) [_] Tryz.underlying23 Tryz.sizeOf9 (by exact Tryz.zeroValue9) rfl rfl rfl rfl (by rfl)) fun b26_0 _=>Le (Eff.appendAny (lineV (pairL kk vv)) (sz:=1) (bytes:=16) (z:= .string ⟨#[]⟩) (xs:=([]:List Value)) (m0:=0) (o:=none) (m:=1) (pk:=[]) rfl rfl Tryz.underlying23 (by kernel_rfl) rfl (by omega) .nil (by rfl) ⟨rfl,rfl⟩ (by rfl) (fun hm0=>⟨b26_0,0,rfl,fun w hw=>V.range_of_block (o:=0) (cs:=lineV (pairL kk vv)) (r:=[]) (hw.own _ (show InS (b26_0,.cells (lineV (pairL kk vv)).toArray 9 (0,0)) _ from(by repeat(first|exact .here|exact .inner .here|exact .inner (.inner .here)|refine .there ?_))).mem) rfl⟩) (by rfl) (by omega) (by omega)) fun o1 ho1=>Lv Av<|Nl<|Bn<|Ps<|Rg<|Lv Ar<|Lv Mv<|Nl<|PQ.next<|Sq<|Rg<|Lv Cm<|LW.re 16 (.bool false) rfl (by rfl)<|Nl<|Ps<|Sq<|Cf<|Xt<|Te<|Te<|Bh<|Ps<|Sq<|Dr ([[(b3,.cells [ownV 1 (some (g,rest,cap)),ownV 0 qo].toArray 119 (0,0))]])<|Rv 0 rfl Mv<|Rv 3 rfl (Fa 1 23)<|Rv 4 rfl (Ld (v:=ownV 0 qo))<|RW.re 33 (.slice pq 0 cq) rfl hvq<|Re 1 rfl (Eff.buildSlice (rfl) [_] Tryz.underlying23 Tryz.sizeOf9 (by exact Tryz.zeroValue9) rfl rfl rfl rfl (by rfl)) ?_
 intro b30_1 _
 refine Re 2 rfl (Eff.appendAny (lineV [47]) (sz:=1) (bytes:=16) (z:= .string ⟨#[]⟩) (xs:=(lineV (pairL kk vv))) (m0:=1) (o:=o1) (m:=1) (pk:=[ownG 9 ((lineV (pairL kk vv))) (o1)]) rfl rfl Tryz.underlying23 (by kernel_rfl) rfl (by omega) (by repeat(first|exact .nil|apply Pick.cons|exact .here|apply Ext.there)) (by simp) ho1 (by rfl) (fun hm0=>⟨b30_1,0,rfl,fun w hw=>V.range_of_block (o:=0) (cs:=lineV [47]) (r:=[]) (hw.own _ (show InS (b30_1,.cells (lineV [47]).toArray 9 (0,0)) _ from(by repeat(first|exact .here|exact .inner .here|exact .inner (.inner .here)|refine .there ?_))).mem) rfl⟩) (by rfl) (by omega) (by omega)) fun o2 ho2=>Re 5 rfl (Eff.appendAny (([]:List Value)) (sz:=1) (bytes:=16) (z:= .string ⟨#[]⟩) (xs:=(lineV (pairL kk vv)++lineV [47])) (m0:=2) (o:=o2) (m:=0) (pk:=[ownG 9 ((lineV (pairL kk vv)++lineV [47])) (o2)]) rfl rfl Tryz.underlying23 (by kernel_rfl) rfl (by omega) (by repeat(first|exact .nil|apply Pick.cons|exact .here|apply Ext.there)) (by simp) ho2 (by rfl) (fun hm0=>absurd hm0 (by omega)) (by rfl) (by omega) (by omega)) fun o3 ho3=>Re 6 rfl (CV fun w hw=>join_n [pairL kk vv,[47]] o3 [32] 2 rfl (by simpa using ho3) (by omega) hj w (hw.sat.pick (by repeat(first|exact .nil|apply Pick.cons|exact .here|apply Ext.there)))) fun _ _=>Rv 7 rfl Av<|Rd<|Ps<|Rt<|Rt1 ?_
 intro w' hw;exact⟨rfl,hw.ro (by repeat(first|exact .nil|apply Pick.cons|exact .here|apply Ext.there)) hs⟩
def epochF (a b c d:Nat):List UInt8:=smallF a++[32]++smallF b++[32]++rowF [c,d]
theorem small_len (i:Nat):(smallF i).length≤2:=by
 unfold smallF
 split<;>simp only[List.length_take]<;>omega
theorem epochs_g (sb wb:Nat)(S:V.Seg)(na nb nc nd:Nat)(hl:na<100∧nb<100∧nc<100∧nd<100)(h1:∀w:World,Sat [S] w→Calls Tryz.prog 63 [.pointer (some ⟨wb,0,none⟩)].toArray w fun e w'=>e= .returned (.int .u64 (na:Nat))∧Below w.heap.size w w')(h2:∀w:World,Sat [S] w→Calls Tryz.prog 64 [.pointer (some ⟨wb,0,none⟩)].toArray w fun e w'=>e= .returned (.int .u64 (nb:Nat))∧Below w.heap.size w w')(h3:∀w:World,Sat [S] w→Calls Tryz.prog 66 [.pointer (some ⟨wb,0,none⟩)].toArray w fun e w'=>e= .returned (.int .i64 (nc:Nat))∧Below w.heap.size w w')(h4:∀w:World,Sat [S] w→Calls Tryz.prog 67 [.pointer (some ⟨wb,0,none⟩)].toArray w fun e w'=>e= .returned (.int .i64 (nd:Nat))∧Below w.heap.size w w')(hj:(rowF [nc,nd]).length≤1000)(w:World)(hs:Sat [[(sb,.cells [.pointer (some ⟨wb,0,none⟩)].toArray 35 (0,0))],S] w):Calls Tryz.prog 35 [.pointer (some ⟨sb,0,none⟩)].toArray w fun e w'=>e= .returned (str (epochF na nb nc nd))∧Below w.heap.size w w':=by
 have l1:=small_len na
 have l2:=small_len nb
 refine V.calls [[(sb,.cells [.pointer (some ⟨wb,0,none⟩)].toArray 35 (0,0))],S] Tryz.func35 rfl Tryz.ntmps35 (Nat.le_of_ble_eq_true rfl) hs<|Sq<|Rg<|Lv Av<|Nl<|Ps<|Sq<|Dr ([[(sb,.cells [.pointer (some ⟨wb,0,none⟩)].toArray 35 (0,0))],S])<|Rv 0 rfl Mv<|Rv 1 rfl Nz<|Rv 2 rfl (Fa 0 33)<|Rv 3 rfl (Ld (v:= .pointer (some ⟨wb,0,none⟩)))<|Rv 7 rfl Mv<|Rv 8 rfl Nz<|Rv 9 rfl (Fa 0 33)<|Rv 10 rfl (Ld (v:= .pointer (some ⟨wb,0,none⟩)))<|Rv 15 rfl Mv<|Rv 16 rfl Nz<|Rv 17 rfl (Fa 0 33)<|Rv 18 rfl (Ld (v:= .pointer (some ⟨wb,0,none⟩)))<|Rv 20 rfl Mv<|Rv 21 rfl Nz<|Rv 22 rfl (Fa 0 33)<|Rv 23 rfl (Ld (v:= .pointer (some ⟨wb,0,none⟩)))<|Re 4 rfl (CV fun w hw=>h1 w (hw.sat.pick (ss:=[S]) (by repeat(first|exact .nil|apply Pick.cons|exact .here|apply Ext.there)))) fun _ _=>Re 5 rfl (CV fun w hw=>fuint_g na hl.1 w) fun _ _=>Rv 6 rfl (Val.catStr rfl rfl (by first|omega|(simp only[List.length_append,List.length_cons,List.length_nil];omega)))<|Re 11 rfl (CV fun w hw=>h2 w (hw.sat.pick (ss:=[S]) (by repeat(first|exact .nil|apply Pick.cons|exact .here|apply Ext.there)))) fun _ _=>Re 12 rfl (CV fun w hw=>fuint_g nb hl.2.1 w) fun _ _=>Rv 13 rfl (Val.catStr rfl rfl (by first|omega|(simp only[List.length_append,List.length_cons,List.length_nil];omega)))<|Rv 14 rfl (Val.catStr rfl rfl (by first|omega|(simp only[List.length_append,List.length_cons,List.length_nil];omega)))<|Re 19 rfl (CV fun w hw=>h3 w (hw.sat.pick (ss:=[S]) (by repeat(first|exact .nil|apply Pick.cons|exact .here|apply Ext.there)))) fun _ _=>Re 24 rfl (CV fun w hw=>h4 w (hw.sat.pick (ss:=[S]) (by repeat(first|exact .nil|apply Pick.cons|exact .here|apply Ext.there)))) fun _ _=>Re 25 rfl (Eff.buildSlice (rfl) [_,_] Tryz.underlying109 Tryz.sizeOf3 (by exact Tryz.zeroValue3) rfl rfl rfl rfl (by rfl)) ?_
 intro b28 _
 refine Re 26 rfl (CV fun w hw=>row_g [nc,nd] (by simp) (by intro x hx;simp at hx;omega) (some ⟨b28,0,none⟩) 2 (by omega) w (.inr ⟨b28,0,rfl,V.lt_of_some (hw.own _ (show InS (b28,.cells [.int .i64 (nc:Nat),.int .i64 (nd:Nat)].toArray 3 (0,0)) _ from(by repeat(first|exact .here|exact .inner .here|exact .inner (.inner .here)|refine .there ?_))).mem),fun i x hx=>V.range_of_block (r:=[Value.int .i64 (nc:Nat),.int .i64 (nd:Nat)].drop (i+1)) (hw.own _ (show InS (b28,.cells [.int .i64 (nc:Nat),.int .i64 (nd:Nat)].toArray 3 (0,0)) _ from(by repeat(first|exact .here|exact .inner .here|exact .inner (.inner .here)|refine .there ?_))).mem) (by rcases i with _|_|i<;>simp at hx<;>subst hx<;>rfl)⟩)) fun _ _=>Rv 27 rfl (Val.catStr rfl rfl (by first|omega|(simp only[List.length_append,List.length_cons,List.length_nil];omega)))<|Rv 28 rfl Av<|Rd<|Ps<|Rt<|Rt1 ?_
 intro w' hw;exact⟨rfl,hw.ro (by repeat(first|exact .nil|apply Pick.cons|exact .here|apply Ext.there)) hs⟩
instance:Siz Tryz.prog 32 (kOf Tryz.sizeOf32):=⟨Tryz.sizeOf32⟩
instance:AgF Tryz.prog 32:=⟨Tryz.isAgg32⟩
instance:Zer Tryz.prog 32 (zOf Tryz.zeroValue32):=⟨Tryz.zeroValue32⟩
instance:Cal Tryz.prog 52:=⟨Tryz.call52⟩
theorem times_g (n m:Nat)(hmn:m<n)(hn:n≤10000)(hm:m<100)(c:Int)(hc:¬c=0)(f:FuncId)(caps:List Value)(hf:∀(args:Array Value) (w:World),(callFunc f args).run Tryz.prog w= .ok (.enter f args) w)(P_:Nat→V.Seg→Prop)
 (hcall:∀(k:Nat) (S:V.Seg) (w:World),k≤m→P_ k S→Sat [S] w→Calls Tryz.prog f caps.toArray w fun e w'=>∃S1,P_ (k+1) S1∧e= .returned (.int .i64 (if k<m then 0 else c))∧Hp ⟨w,V.ids [S]⟩ [S1] w')(S:V.Seg)(h0:P_ 0 S)(w:World)(hs:Sat [S] w):Calls Tryz.prog 50 [.int .i64 (n:Nat),.func (.func f) #[] caps.toArray].toArray w fun e w'=>∃S1,P_ (m+1) S1∧e= .returned (str (smallF m))∧Hp ⟨w,V.ids [S]⟩ [S1] w':=by
 refine V.calls [S] Tryz.func50 rfl Tryz.ntmps50 (Nat.le_of_ble_eq_true rfl) hs<|Sq<|Rg<|Lv Av<|Nl<|Ps<|Sq<|Rg<|Lv Av<|Nl<|Ps<|Sq<|Bk<|loopA (γ:=Nat×V.Seg) (fun k=>[(0,.int .i64 (n:Nat)),(1,.func (.func f) #[] caps.toArray),(5,.int .i64 (k.1:Nat))]) (fun k=>[k.2]) (fun k=>k.1≤m∧P_ k.1 k.2) (fun k=>m-k.1) ((0,S)) ⟨Nat.zero_le _,h0⟩ fun k=>?_
 rintro⟨hk1,hk2⟩
 refine Sq<|Sq<|Rg<|Lv Mv<|Lv Mv<|Lv Cm<|LW.re 8 (.bool true) rfl (by congr 1;simp;omega)<|Lv Mv<|Lv Mv<|Le (Eff.callFM (f:=f) (caps:=caps) ([k.2]) (by repeat(first|exact .nil|apply Pick.cons|exact .here|apply Ext.there)) rfl rfl hf (fun w hw hs0=>hcall k.1 k.2 w hk1 hk2 hs0)) fun S1 hS1=>Lv Cm<|Lv Pt<|Nl<|Ps ?_
 refine CW.cond rfl (fun h13=>?_) (fun h13=>?_)
 ·replace h13:=bT h13
  refine Sk<|Ps<|Bk<|Rg<|Lv Mv<|Lv Ar<|Lv Av<|Nl<|Bn ?_
  exact roundA ((k.1+1,S1)) ⟨by simp only;omega,hS1⟩ (by simp only;omega)
 ·replace h13:=bF h13
  refine Xt<|Te<|Te<|Bh<|Ps<|Sq<|Rg<|Lv Mv<|Le (CV fun w hw=>itoa_g k.1 (by omega) w) fun _ _=>Lv Av<|Nl<|Ps<|Rt<|Rt1 ?_
  have e9:k.1=m:=by omega
  intro w' hw;exact⟨S1,e9▸hS1,by rw[e9],hw⟩
theorem ev111_g (bb eb sb wb:Nat)(ev:Evt)(S:V.Seg)(c:Int)(φ:V.Seg→Prop)(hD:∀w:World,Sat [S] w→Calls Tryz.prog 52 [.pointer (some ⟨wb,0,none⟩),.agg (evC ev (.slice none 0 0) (.slice none 0 0)).toArray].toArray w fun e w'=>∃S1,φ S1∧e= .returned (.int .i64 c)∧Hp ⟨w,V.ids [S]⟩ [S1] w')(w:World)(hs:Sat [[(bb,.cells [.pointer (some ⟨sb,0,none⟩)].toArray 32 (0,0))],[(eb,.cells (evC ev (.slice none 0 0) (.slice none 0 0)).toArray 111 (0,0))],[(sb,.cells [.pointer (some ⟨wb,0,none⟩)].toArray 35 (0,0))],S] w):Calls Tryz.prog 51 [.pointer (some ⟨bb,0,none⟩),.pointer (some ⟨eb,0,none⟩)].toArray w fun e w'=>∃S1,φ S1∧e= .returned (.int .i64 c)∧Hp ⟨w,V.ids [[(bb,.cells [.pointer (some ⟨sb,0,none⟩)].toArray 32 (0,0))],[(eb,.cells (evC ev (.slice none 0 0) (.slice none 0 0)).toArray 111 (0,0))],[(sb,.cells [.pointer (some ⟨wb,0,none⟩)].toArray 35 (0,0))],S]⟩ [[(bb,.cells [.pointer (some ⟨sb,0,none⟩)].toArray 32 (0,0))],[(eb,.cells (evC ev (.slice none 0 0) (.slice none 0 0)).toArray 111 (0,0))],[(sb,.cells [.pointer (some ⟨wb,0,none⟩)].toArray 35 (0,0))],S1] w':=by
 refine V.calls [[(bb,.cells [.pointer (some ⟨sb,0,none⟩)].toArray 32 (0,0))],[(eb,.cells (evC ev (.slice none 0 0) (.slice none 0 0)).toArray 111 (0,0))],[(sb,.cells [.pointer (some ⟨wb,0,none⟩)].toArray 35 (0,0))],S] Tryz.func51 rfl Tryz.ntmps51 (Nat.le_of_ble_eq_true rfl) hs<|Sq<|Rg<|Lv Av<|Nl<|Ps<|Sq<|Dr ([[(bb,.cells [.pointer (some ⟨sb,0,none⟩)].toArray 32 (0,0))],[(eb,.cells (evC ev (.slice none 0 0) (.slice none 0 0)).toArray 111 (0,0))],[(sb,.cells [.pointer (some ⟨wb,0,none⟩)].toArray 35 (0,0))]])<|Rv 0 rfl (Ld (v:= .pointer (some ⟨sb,0,none⟩)))<|Rv 1 rfl Nz<|Rv 2 rfl (Fa 0 33)<|Rv 3 rfl (Ld (v:= .pointer (some ⟨wb,0,none⟩)))<|Rv 4 rfl (Lw (l:=evC ev (.slice none 0 0) (.slice none 0 0)))<|Re 5 rfl (CM ([S]) fun w hw hs0=>hD w hs0) fun S1 hS1=>Rv 6 rfl Av<|Rd<|Ps<|Rt<|Rt1 ?_
 intro w' hw;exact⟨S1,hS1,rfl,hw.pick (by repeat(first|exact .nil|apply Pick.cons|exact .here|apply Ext.there))⟩
theorem ev11_g (nb bb eb sb wb:Nat)(ev:Evt)(n m:Nat)(hmn:m<n)(hn:n≤10000)(hm:m<100)(c:Int)(hc:¬c=0)(P_:Nat→V.Seg→Prop)(hD:∀(k:Nat) (S:V.Seg) (w:World),k≤m→P_ k S→Sat [S] w→Calls Tryz.prog 52 [.pointer (some ⟨wb,0,none⟩),.agg (evC ev (.slice none 0 0) (.slice none 0 0)).toArray].toArray w fun e w'=>∃S1,P_ (k+1) S1∧e= .returned (.int .i64 (if k<m then 0 else c))∧Hp ⟨w,V.ids [S]⟩ [S1] w')(S:V.Seg)(h0:P_ 0 S)(w:World)(hs:Sat [[(nb,.cells [.int .i64 (n:Nat)].toArray 3 (0,0))],[(bb,.cells [.pointer (some ⟨sb,0,none⟩)].toArray 32 (0,0))],[(eb,.cells (evC ev (.slice none 0 0) (.slice none 0 0)).toArray 111 (0,0))],[(sb,.cells [.pointer (some ⟨wb,0,none⟩)].toArray 35 (0,0))],S] w):Calls Tryz.prog 49 [.pointer (some ⟨nb,0,none⟩),.pointer (some ⟨bb,0,none⟩),.pointer (some ⟨eb,0,none⟩)].toArray w fun e w'=>∃S1,P_ (m+1) S1∧e= .returned (str (smallF m))∧Hp ⟨w,V.ids [[(nb,.cells [.int .i64 (n:Nat)].toArray 3 (0,0))],[(bb,.cells [.pointer (some ⟨sb,0,none⟩)].toArray 32 (0,0))],[(eb,.cells (evC ev (.slice none 0 0) (.slice none 0 0)).toArray 111 (0,0))],[(sb,.cells [.pointer (some ⟨wb,0,none⟩)].toArray 35 (0,0))],S]⟩ [[(sb,.cells [.pointer (some ⟨wb,0,none⟩)].toArray 35 (0,0))],S1] w':=by
 have hT:=times_g n m hmn hn hm c hc 51 [.pointer (some ⟨bb,0,none⟩),.pointer (some ⟨eb,0,none⟩)] Tryz.call51 (fun k T=>∃S,T=([[(bb,.cells [.pointer (some ⟨sb,0,none⟩)].toArray 32 (0,0))],[(eb,.cells (evC ev (.slice none 0 0) (.slice none 0 0)).toArray 111 (0,0))],[(sb,.cells [.pointer (some ⟨wb,0,none⟩)].toArray 35 (0,0))],S]:V.Sg).flatten∧P_ k S) (fun k T w hk hT hs=>by
  obtain⟨S,rfl,hS⟩:=hT
  rw[ids_flat]
  exact(ev111_g bb eb sb wb ev S _ (P_ (k+1)) (fun w hs=>hD k S w hk hS hs) w (sat_flat hs)).mono fun e w' ⟨S1,h1,h2,h3⟩=>⟨_,⟨S1,rfl,h1⟩,h2,hp_flat h3⟩) _ ⟨S,rfl,h0⟩
 refine V.calls [[(nb,.cells [.int .i64 (n:Nat)].toArray 3 (0,0))],[(bb,.cells [.pointer (some ⟨sb,0,none⟩)].toArray 32 (0,0))],[(eb,.cells (evC ev (.slice none 0 0) (.slice none 0 0)).toArray 111 (0,0))],[(sb,.cells [.pointer (some ⟨wb,0,none⟩)].toArray 35 (0,0))],S] Tryz.func49 rfl Tryz.ntmps49 (Nat.le_of_ble_eq_true rfl) hs<|Sq<|Rg<|Lv Av<|Nl<|Ps<|Sq<|Rg<|Lv (Ld (v:= .int .i64 (n:Nat)))<|Lv Mf ?_
 refine LW.e rfl rfl (Eff.callM ([[(bb,.cells [.pointer (some ⟨sb,0,none⟩)].toArray 32 (0,0))],[(eb,.cells (evC ev (.slice none 0 0) (.slice none 0 0)).toArray 111 (0,0))],[(sb,.cells [.pointer (some ⟨wb,0,none⟩)].toArray 35 (0,0))],S]) (by repeat(first|exact .nil|apply Pick.cons|exact .here|apply Ext.there)) rfl Tryz.call50 (fun w hw hs0=>by
  have h9:=hT w (⟨fun p hp=>hs0.own p (by simpa using hp),by simpa using hs0.nd⟩)
  rw[ids_flat] at h9
  exact h9.mono fun e w' ⟨T,⟨S1,h1,h2⟩,h3,h4⟩=>⟨S1,h2,h3,(show Hp _ [[(bb,.cells [.pointer (some ⟨sb,0,none⟩)].toArray 32 (0,0))],[(eb,.cells (evC ev (.slice none 0 0) (.slice none 0 0)).toArray 111 (0,0))],[(sb,.cells [.pointer (some ⟨wb,0,none⟩)].toArray 35 (0,0))],S1] w' from by subst h1;exact h4.perm (by simp))⟩)) ?_
 intro S1 hS1
 refine Lv Av<|Nl<|Ps<|Rt<|Rt1 ?_
 intro w' hw;exact⟨S1,hS1,rfl,hw.pick (by repeat(first|exact .nil|apply Pick.cons|exact .here|apply Ext.there))⟩
theorem places91:∀w,((Array.mapM (fun(f:Field)=>do pure (f.offset,← sizeOf f.type)) (Tryz.prog.fieldsOf 91):Sem (Array (Nat×Nat)))).run Tryz.prog w= .ok [(0,1),(1,1),(2,1),(3,1),(4,1)].toArray w:=by
 intro w;kernel_rfl
theorem places111:∀w,((Array.mapM (fun(f:Field)=>do pure (f.offset,← sizeOf f.type)) (Tryz.prog.fieldsOf 111):Sem (Array (Nat×Nat)))).run Tryz.prog w= .ok [(0,1),(1,1),(2,1),(3,5),(8,1)].toArray w:=by
 intro w;kernel_rfl
instance:AgF Tryz.prog 51:=⟨Tryz.isAgg51⟩
instance:Plc Tryz.prog 91 (fOf Tryz.underlying91) (lOf (P:=Tryz.prog) places91):=⟨places91,Tryz.underlying91⟩
instance:Plc Tryz.prog 111 (fOf Tryz.underlying111) (lOf (P:=Tryz.prog) places111):=⟨places111,Tryz.underlying111⟩
instance:Cal Tryz.prog 48:=⟨Tryz.call48⟩
instance:Cal Tryz.prog 54:=⟨Tryz.call54⟩
instance:Cal Tryz.prog 71:=⟨Tryz.call71⟩
instance:Cal Tryz.prog 102:=⟨Tryz.call102⟩
theorem event_g (sb:Nat)(k:Int)(w:World):Calls Tryz.prog 29 [.pointer (some ⟨sb,0,none⟩),.int .i64 k].toArray w fun e w'=>∃z:Nat×Nat,True∧e= .returned (.func (.func 47) #[] #[.pointer (some ⟨z.1,0,none⟩),.pointer (some ⟨z.2,0,none⟩)])∧Hp ⟨w,[]⟩ [[(z.1,.cells [.int .i64 k].toArray 3 (0,0))],[(z.2,.cells [.pointer (some ⟨sb,0,none⟩)].toArray 32 (0,0))]] w':=by
 refine V.calls [] Tryz.func29 rfl Tryz.ntmps29 (Nat.le_of_ble_eq_true rfl) (V.sat_nil _)<|Sq<|Rg<|Le XS fun b2 _=>Le XS fun b3 _=>Lv Av<|Nl<|Ps<|Sq<|Rg<|Lv Mf<|Lv Av<|Nl<|Ps<|Rt<|Rt1 ?_
 intro w' hw;exact⟨(b3,b2),trivial,rfl,hw.pick (by repeat(first|exact .nil|apply Pick.cons|exact .here|apply Ext.there))⟩
theorem calls_g (sb:Nat)(x:List UInt8)(w:World):Calls Tryz.prog 38 [.pointer (some ⟨sb,0,none⟩),str x].toArray w fun e w'=>∃z:Nat×Nat,True∧e= .returned (.func (.func 70) #[] #[.pointer (some ⟨z.1,0,none⟩),.pointer (some ⟨z.2,0,none⟩)])∧Hp ⟨w,[]⟩ [[(z.1,.cells [str x].toArray 9 (0,0))],[(z.2,.cells [.pointer (some ⟨sb,0,none⟩)].toArray 32 (0,0))]] w':=by
 refine V.calls [] Tryz.func38 rfl Tryz.ntmps38 (Nat.le_of_ble_eq_true rfl) (V.sat_nil _)<|Sq<|Rg<|Le XS fun b2 _=>Le XS fun b3 _=>Lv Av<|Nl<|Ps<|Sq<|Rg<|Lv Mf<|Lv Av<|Nl<|Ps<|Rt<|Rt1 ?_
 intro w' hw;exact⟨(b3,b2),trivial,rfl,hw.pick (by repeat(first|exact .nil|apply Pick.cons|exact .here|apply Ext.there))⟩
theorem plain_g (f:Fn)(bs cs:Array Value)(w:World):Calls Tryz.prog 33 [.func f bs cs].toArray w fun e w'=>∃z:Nat,True∧e= .returned (.func (.func 59) #[] #[.pointer (some ⟨z,0,none⟩)])∧Hp ⟨w,[]⟩ [[(z,.cells [.func f bs cs].toArray 51 (0,0))]] w':=by
 refine V.calls [] Tryz.func33 rfl Tryz.ntmps33 (Nat.le_of_ble_eq_true rfl) (V.sat_nil _)<|Sq<|Rg<|Le XS fun b1 _=>Lv Av<|Nl<|Ps<|Sq<|Rg<|Lv Mf<|Lv Av<|Nl<|Ps<|Rt<|Rt1 ?_
 intro w' hw;exact⟨b1,trivial,rfl,hw.pick (by repeat(first|exact .nil|apply Pick.cons|exact .here|apply Ext.there))⟩
theorem plain1_g (tv:Value)(z:Nat)(v:Value)(w:World)(hs:Sat [[(z,.cells [v].toArray 51 (0,0))]] w):Calls Tryz.prog 59 [tv,.pointer (some ⟨z,0,none⟩)].toArray w fun e w'=>e= .returned (v)∧Below w.heap.size w w':=by
 refine V.calls [[(z,.cells [v].toArray 51 (0,0))]] Tryz.func59 rfl Tryz.ntmps59 (Nat.le_of_ble_eq_true rfl) hs<|Sq<|Rg<|Lv Av<|Nl<|Ps<|Sq<|Rg<|Lv (Ld (v:=v))<|Lv Av<|Nl<|Ps<|Rt<|Rt1 ?_
 intro w' hw;exact⟨rfl,hw.ro (by repeat(first|exact .nil|apply Pick.cons|exact .here|apply Ext.there)) hs⟩
def TkE (T:V.Seg)(tb:Nat):Prop:=∃gp c,T=[(tb,.cells (tkrC gp 0 c false).toArray 59 (0,0))]
theorem ev1_g (tb:Nat)(W:V.Seg)(gp:Option Addr)(n c:Nat)(kb bb:Nat)(x y:List UInt8)(hW:WsAt W gp [x,y])(hn:n=2)(hc:n≤c)(m1 m2:Nat)(hT:Go.Lib.trimS x d10=[])(hA:Go.Lib.atoi x=some (m1:Int))(hx:1≤x.length∧x.length≤9)(hT2:Go.Lib.trimS y d10=[])(hA2:Go.Lib.atoi y=some (m2:Int))(hy:1≤y.length∧y.length≤9)(hm:m2≤10000)(w:World)(hs:Sat [[(tb,.cells (tkrC gp n c false).toArray 59 (0,0))],W,[(kb,.cells [.int .i64 2].toArray 3 (0,0))]] w):Calls Tryz.prog 47 [.pointer (some ⟨tb,0,none⟩),.pointer (some ⟨kb,0,none⟩),.pointer (some ⟨bb,0,none⟩)].toArray w fun e w'=>∃z:V.Seg×Nat×Nat,TkE z.1 tb∧e= .returned (.func (.func 49) #[] #[.pointer (some ⟨z.2.1,0,none⟩),.pointer (some ⟨bb,0,none⟩),.pointer (some ⟨z.2.2,0,none⟩)])∧Hp ⟨w,V.ids ([[(tb,.cells (tkrC gp n c false).toArray 59 (0,0))],W,[(kb,.cells [.int .i64 2].toArray 3 (0,0))]])⟩ ([z.1,W,[(z.2.1,.cells [.int .i64 (m2:Nat)].toArray 3 (0,0))],[(z.2.2,.cells (evC (⟨2,(m1:Nat),0,kal0⟩:Evt) (.slice none 0 0) (.slice none 0 0)).toArray 111 (0,0))],[(kb,.cells [.int .i64 2].toArray 3 (0,0))]]) w':=by
 subst hn
 have hW2:=hW.tl (c:=c) (by simpa using hc)
 refine V.calls [[(tb,.cells (tkrC gp 2 c false).toArray 59 (0,0))],W,[(kb,.cells [.int .i64 2].toArray 3 (0,0))]] Tryz.func47 rfl Tryz.ntmps47 (Nat.le_of_ble_eq_true rfl) hs<|Sq<|Rg<|Lv Av<|Nl<|Ps<|Sq<|Rg<|Lv (Ld (v:= .int .i64 2))<|Lv (Bd (evC ⟨2,0,0,kal0⟩ (.slice none 0 0) (.slice none 0 0)))<|Le AA fun b5 _=>LeN (StW (cs:=evC ⟨2,0,0,kal0⟩ (.slice none 0 0) (.slice none 0 0))) fun _ _=>Nl<|Ps<|Sq<|Sq<|Rg<|Lv (Ld (v:= .int .i64 2))<|Lv Cm<|Nl<|Ps<|Ct<|Rg<|Lv Mv<|Le (CM ([[(tb,.cells (tkrC gp 2 c false).toArray 59 (0,0))],W]) fun w hw hs0=>number_g tb W gp 2 c x [y] hW rfl hc m1 hT hA hx w hs0) fun _ _=>Lv (Fa 1 3)<|LeN (Eff.storeX (v:= .int .i64 (m1:Nat)) (l:=evC ⟨2,0,0,kal0⟩ (.slice none 0 0) (.slice none 0 0)) (l':=evC (⟨2,(m1:Nat),0,kal0⟩:Evt) (.slice none 0 0) (.slice none 0 0)) rfl rfl rfl (by repeat(first|exact .here|exact .inner .here|exact .inner (.inner .here)|apply Upd.there)) rfl (Nat.le_of_ble_eq_true rfl) Tryz.sizeOf3) fun _ _=>Nl<|Ps<|Sq<|Rg<|Lv Mv<|Le (CM ([[(tb,.cells (tkrC (if c=1 then gp else(gp).map (·.add (1*1))) 1 (c-1) false).toArray 59 (0,0))],W]) fun w hw hs0=>count_g tb W (if c=1 then gp else(gp).map (·.add (1*1))) 1 (c-1) y [] hW2 rfl (by omega) m2 hT2 hA2 hy hm w hs0) fun _ _=>Le V.AS fun b6 _=>LeN StS fun _ _=>Nl<|Ps<|Sq<|Rg<|Lv Mf<|Lv Av<|Nl<|Ps<|Rt<|Rt1 ?_
 intro w' hw;exact⟨(_,b6,b5),⟨_,_,rfl⟩,rfl,hw.pick (by repeat(first|exact .nil|apply Pick.cons|exact .here|apply Ext.there))⟩
theorem callput_g (tb:Nat)(W:V.Seg)(gp:Option Addr)(n c:Nat)(kk vv:List UInt8)(hW:WsAt W gp [kk,vv])(hn:n=2)(hc:n≤c)(hk:kk≠[45])(hv:vv≠[45])(w:World)(hs:Sat [[(tb,.cells (tkrC gp n c false).toArray 59 (0,0))],W] w):Calls Tryz.prog 71 [str [112,117,116],.pointer (some ⟨tb,0,none⟩)].toArray w fun e w'=>∃z:V.Seg,TkE z tb∧e= .returned (.agg (klC ⟨2,kk,vv,[]⟩ (.slice none 0 0)).toArray)∧Hp ⟨w,V.ids ([[(tb,.cells (tkrC gp n c false).toArray 59 (0,0))],W])⟩ ([z,W]) w':=by
 subst hn
 have hW2:=hW.tl (c:=c) (by simpa using hc)
 refine V.calls [[(tb,.cells (tkrC gp 2 c false).toArray 59 (0,0))],W] Tryz.func71 rfl Tryz.ntmps71 (Nat.le_of_ble_eq_true rfl) hs<|Sq<|Rg<|Le AA fun b4 _=>Nl<|Ps<|Sq<|Sq<|Rg<|Lv Mv<|Nl<|Ps<|Bk<|Sq<|Rg<|Lv ES<|LW.re 7 (.bool false) rfl (by rfl)<|Lv Av<|Nl<|Ps<|Cf<|Sq<|Rg<|Lv ES<|LW.re 12 (.bool true) rfl (by rfl)<|Lv Av<|Nl<|Ps<|Ct<|Sq<|Rg<|Lv Mv<|Le (CM ([[(tb,.cells (tkrC gp 2 c false).toArray 59 (0,0))],W]) fun w hw hs0=>text_g tb W gp 2 c kk [vv] hW rfl hc hk w hs0) fun _ _=>Lv Mv<|Le (CM ([[(tb,.cells (tkrC (if c=1 then gp else(gp).map (·.add (1*1))) 1 (c-1) false).toArray 59 (0,0))],W]) fun w hw hs0=>text_g tb W (if c=1 then gp else(gp).map (·.add (1*1))) 1 (c-1) vv [] hW2 rfl (by omega) hv w hs0) fun _ _=>Lv (Bd (klC ⟨2,kk,vv,[]⟩ (.slice none 0 0)))<|LeN (StW (cs:=(klC ⟨2,kk,vv,[]⟩ (.slice none 0 0)))) fun _ _=>Nl<|Ps<|Rt<|Br<|Tr<|PQ.retC (l:=(klC ⟨2,kk,vv,[]⟩ (.slice none 0 0))) rfl rfl (by repeat(first|exact .here|exact .inner .here|exact .inner (.inner .here)|refine .there ?_)) Tryz.isAgg91 (by exact Tryz.sizeOf91) ?_
 intro w' hw;exact⟨_,⟨_,_,rfl⟩,rfl,hw.pick (by repeat(first|exact .nil|apply Pick.cons|exact .here|apply Ext.there))⟩
theorem calls1_g (tb:Nat)(W:V.Seg)(gp:Option Addr)(n c:Nat)(kb bb:Nat)(x kk vv:List UInt8)(hW:WsAt W gp [x,kk,vv])(hn:n=3)(hc:n≤c)(m:Nat)(hT:Go.Lib.trimS x d10=[])(hA:Go.Lib.atoi x=some (m:Int))(hx:1≤x.length∧x.length≤9)(hk:kk≠[45])(hv:vv≠[45])(w:World)(hs:Sat [[(tb,.cells (tkrC gp n c false).toArray 59 (0,0))],W,[(kb,.cells [str [112,117,116]].toArray 9 (0,0))]] w):Calls Tryz.prog 70 [.pointer (some ⟨tb,0,none⟩),.pointer (some ⟨kb,0,none⟩),.pointer (some ⟨bb,0,none⟩)].toArray w fun e w'=>∃z:V.Seg×Nat×Nat,TkE z.1 tb∧e= .returned (.func (.func 72) #[] #[.pointer (some ⟨bb,0,none⟩),.pointer (some ⟨z.2.1,0,none⟩),.pointer (some ⟨z.2.2,0,none⟩)])∧Hp ⟨w,V.ids ([[(tb,.cells (tkrC gp n c false).toArray 59 (0,0))],W,[(kb,.cells [str [112,117,116]].toArray 9 (0,0))]])⟩ ([z.1,W,[(z.2.1,.cells [.int .i64 (m:Nat)].toArray 3 (0,0))],[(z.2.2,.cells (klC ⟨2,kk,vv,[]⟩ (.slice none 0 0)).toArray 91 (0,0))],[(kb,.cells [str [112,117,116]].toArray 9 (0,0))]]) w':=by
 subst hn
 have hW2:=hW.tl (c:=c) (by simpa using hc)
 refine V.calls [[(tb,.cells (tkrC gp 3 c false).toArray 59 (0,0))],W,[(kb,.cells [str [112,117,116]].toArray 9 (0,0))]] Tryz.func70 rfl Tryz.ntmps70 (Nat.le_of_ble_eq_true rfl) hs<|Sq<|Rg<|Lv Av<|Nl<|Ps<|Sq<|Rg<|Lv Mv<|Le (CM ([[(tb,.cells (tkrC gp 3 c false).toArray 59 (0,0))],W]) fun w hw hs0=>number_g tb W gp 3 c x [kk,vv] hW rfl hc m hT hA hx w hs0) fun _ _=>Le V.AS fun b5 _=>LeN StS fun _ _=>Nl<|Ps<|Sq<|Rg<|Lv (Ld (v:=str [112,117,116]))<|Lv Mv<|Le (CM ([[(tb,.cells (tkrC (if c=1 then gp else(gp).map (·.add (1*1))) 2 (c-1) false).toArray 59 (0,0))],W]) fun w hw hs0=>callput_g tb W (if c=1 then gp else(gp).map (·.add (1*1))) 2 (c-1) kk vv hW2 rfl (by omega) hk hv w hs0) fun z hz=>Le AA fun b6 _=>LeN (StW (cs:=(klC ⟨2,kk,vv,[]⟩ (.slice none 0 0)))) fun _ _=>Nl<|Ps<|Sq<|Rg<|Lv Mf<|Lv Av<|Nl<|Ps<|Rt<|Rt1 ?_
 intro w' hw;exact⟨(z,b5,b6),hz,rfl,hw.pick (by repeat(first|exact .nil|apply Pick.cons|exact .here|apply Ext.there))⟩
theorem num_g (i:Nat)(hi:i<100)(w:World):Calls Tryz.prog 54 [.int .i64 (i:Nat)].toArray w fun e w'=>e= .returned (str (smallF i))∧Below w.heap.size w w':=by
 refine V.calls [] Tryz.func54 rfl Tryz.ntmps54 (Nat.le_of_ble_eq_true rfl) (V.sat_nil _)<|Sq<|Rg<|Lv Av<|Nl<|Ps<|Sq<|Rg<|Lv Mv<|Le (CV fun w hw=>itoa_g i hi w) fun _ _=>Lv Av<|Nl<|Ps<|Rt<|Rt1 ?_
 intro w' hw;exact⟨rfl,hw.below⟩
theorem calls11_g (bb nb cb sb wb:Nat)(m:Nat)(kk vv:List UInt8)(S:V.Seg)(c:Nat)(hc:c<100)(φ:V.Seg→Prop)(hD:∀w:World,Sat [S] w→Calls Tryz.prog 52 [.pointer (some ⟨wb,0,none⟩),.agg (evC (⟨1,(m:Nat),0,⟨2,kk,vv,[]⟩⟩:Evt) (.slice none 0 0) (.slice none 0 0)).toArray].toArray w fun e w'=>∃S1,φ S1∧e= .returned (.int .i64 (c:Nat))∧Hp ⟨w,V.ids [S]⟩ [S1] w')(w:World)(hs:Sat [[(bb,.cells [.pointer (some ⟨sb,0,none⟩)].toArray 32 (0,0))],[(nb,.cells [.int .i64 (m:Nat)].toArray 3 (0,0))],[(cb,.cells (klC ⟨2,kk,vv,[]⟩ (.slice none 0 0)).toArray 91 (0,0))],[(sb,.cells [.pointer (some ⟨wb,0,none⟩)].toArray 35 (0,0))],S] w):Calls Tryz.prog 72 [.pointer (some ⟨bb,0,none⟩),.pointer (some ⟨nb,0,none⟩),.pointer (some ⟨cb,0,none⟩)].toArray w fun e w'=>∃S1,φ S1∧e= .returned (str (smallF c))∧Hp ⟨w,V.ids [[(bb,.cells [.pointer (some ⟨sb,0,none⟩)].toArray 32 (0,0))],[(nb,.cells [.int .i64 (m:Nat)].toArray 3 (0,0))],[(cb,.cells (klC ⟨2,kk,vv,[]⟩ (.slice none 0 0)).toArray 91 (0,0))],[(sb,.cells [.pointer (some ⟨wb,0,none⟩)].toArray 35 (0,0))],S]⟩ [[(sb,.cells [.pointer (some ⟨wb,0,none⟩)].toArray 35 (0,0))],S1] w':=by
 refine V.calls [[(bb,.cells [.pointer (some ⟨sb,0,none⟩)].toArray 32 (0,0))],[(nb,.cells [.int .i64 (m:Nat)].toArray 3 (0,0))],[(cb,.cells (klC ⟨2,kk,vv,[]⟩ (.slice none 0 0)).toArray 91 (0,0))],[(sb,.cells [.pointer (some ⟨wb,0,none⟩)].toArray 35 (0,0))],S] Tryz.func72 rfl Tryz.ntmps72 (Nat.le_of_ble_eq_true rfl) hs<|Sq<|Rg<|Lv Av<|Nl<|Ps<|Sq<|Dr ([[(bb,.cells [.pointer (some ⟨sb,0,none⟩)].toArray 32 (0,0))],[(nb,.cells [.int .i64 (m:Nat)].toArray 3 (0,0))],[(cb,.cells (klC ⟨2,kk,vv,[]⟩ (.slice none 0 0)).toArray 91 (0,0))],[(sb,.cells [.pointer (some ⟨wb,0,none⟩)].toArray 35 (0,0))]])<|Rv 0 rfl (Ld (v:= .pointer (some ⟨sb,0,none⟩)))<|Rv 1 rfl Nz<|Rv 2 rfl (Fa 0 33)<|Rv 3 rfl (Ld (v:= .pointer (some ⟨wb,0,none⟩)))<|Rv 4 rfl (Ld (v:= .int .i64 (m:Nat)))<|Rv 5 rfl (Lw (l:=(klC ⟨2,kk,vv,[]⟩ (.slice none 0 0))))<|Rv 6 rfl (Bd (evC (⟨1,(m:Nat),0,⟨2,kk,vv,[]⟩⟩:Evt) (.slice none 0 0) (.slice none 0 0)))<|Re 7 rfl (CM ([S]) fun w hw hs0=>hD w hs0) fun S1 hS1=>Re 8 rfl (CV fun w hw=>num_g c hc w) fun _ _=>Rv 9 rfl Av<|Rd<|Ps<|Rt<|Rt1 ?_
 intro w' hw;exact⟨S1,hS1,rfl,hw.pick (by repeat(first|exact .nil|apply Pick.cons|exact .here|apply Ext.there))⟩
end G
end Go.Proofs.YtpjmdbifacijoaaGreatDoor
namespace Go.Proofs.YtpjmdbifacijoaaGreatDoor.V
open Go Go.RowKit
set_option linter.unusedVariables false
theorem mget_no (k:ByteArray):∀E:ME,k∉E.map (fun e=>e.2.1)→mget E k=none
 |[],_=>rfl
 |e::r,h=>by
  simp only[List.map_cons,List.mem_cons,not_or] at h
  simp only[mget]
  rw[if_neg (fun h1=>h.1 h1.symm)]
  exact mget_no k r h.2
theorem mput_no {E:ME}{k:ByteArray}(h:k∉E.map (fun e=>e.2.1))(v:Value)(c:Nat):mput E k v c=E++[(c,k,v)]∧mclk E k c=c+1:=by
 unfold mput mclk
 rw[mget_no k E h]
 exact⟨rfl,rfl⟩
section
variable {P:Program}{n:Nat}{B:Base}{ks:Ks}{sg:Sg}{d:Option Tmp}{ty:TypeId}{pos:String}{aft:Array Edge}{g:Option (Nat×Bool)}
theorem Eff.insertN {t kt et:TypeId}{x y z:Operand}{b c:Nat}{E:ME}{k:ByteArray}{v:Value}{sg':Sg}(hx:ev ks x=some (.map (some b)))(hy:ev ks y=some (.string k))(hz:ev ks z=some v)(hu:P.underlying t=some (.map kt et))(hk:P.underlying kt=some .string)
 (hU:Upd b (mpO E c) (mpO (E++[(c,k,v)]) (c+1)) sg sg')(hn:k∉E.map (fun e=>e.2.1)):Eff P n B ⟨d,.insert t x y z,ty,pos,aft,g⟩ ks sg (α:=Unit) (fun _=>True) (fun _=>undef) (fun _=>sg'):=
 Eff.insertS hx hy hz hu hk (by rw[(mput_no hn v c).1,(mput_no hn v c).2];exact hU)
theorem Eff.mapUpdateN {t kt et:TypeId}{x y z:Operand}{b c:Nat}{E:ME}{k:ByteArray}{v:Value}{sg':Sg}(hx:ev ks x=some (.map (some b)))(hy:ev ks y=some (.string k))(hz:ev ks z=some v)(hu:P.underlying t=some (.map kt et))(hk:P.underlying kt=some .string)
 (hU:Upd b (mpO E c) (mpO (E++[(c,k,v)]) (c+1)) sg sg')(hn:k∉E.map (fun e=>e.2.1)):Eff P n B ⟨d,.mapUpdate t x y z,ty,pos,aft,g⟩ ks sg (α:=Unit) (fun _=>True) (fun _=>undef) (fun _=>sg'):=
 Eff.mapUpdate hx hy hz hu hk (by rw[(mput_no hn v c).1,(mput_no hn v c).2];exact hU)
end
end Go.Proofs.YtpjmdbifacijoaaGreatDoor.V
namespace Go.Proofs.YtpjmdbifacijoaaGreatDoor
open Go Go.RowKit V
set_option linter.unusedVariables false
set_option maxRecDepth 100000
namespace G
open V (str byC ownV ownG ownS ownOk)
instance:Cal Tryz.prog 29:=⟨Tryz.call29⟩
instance:Cal Tryz.prog 33:=⟨Tryz.call33⟩
instance:Cal Tryz.prog 38:=⟨Tryz.call38⟩
structure Say where
 m:Nat
 E:V.ME
 c:Nat
 s1:Nat
 s2:Nat
 p1:Nat
 p2:Nat
 x1:Nat
 x2:Nat
def Say.Ok (z:Say):Prop:=V.mget z.E ⟨#[115,116,101,112]⟩=some (.func (.func 47) #[] #[.pointer (some ⟨z.s1,0,none⟩),.pointer (some ⟨z.s2,0,none⟩)])∧V.mget z.E ⟨#[112,117,116]⟩=some (.func (.func 70) #[] #[.pointer (some ⟨z.p1,0,none⟩),.pointer (some ⟨z.p2,0,none⟩)])∧V.mget z.E ⟨#[115,104,101,108,102]⟩=some (.func (.func 59) #[] #[.pointer (some ⟨z.x1,0,none⟩)])∧V.mget z.E ⟨#[101,112,111,99,104,115]⟩=some (.func (.func 59) #[] #[.pointer (some ⟨z.x2,0,none⟩)])
def sayS (sb:Nat)(z:Say):V.Sg:=[[(z.m,V.mpO z.E z.c)],[(z.s1,.cells [.int .i64 2].toArray 3 (0,0))],[(z.s2,.cells [.pointer (some ⟨sb,0,none⟩)].toArray 32 (0,0))],[(z.p1,.cells [str [112,117,116]].toArray 9 (0,0))],[(z.p2,.cells [.pointer (some ⟨sb,0,none⟩)].toArray 32 (0,0))],[(z.x1,.cells [.func (.func 34) #[.pointer (some ⟨sb,0,none⟩)] #[]].toArray 51 (0,0))],[(z.x2,.cells [.func (.func 35) #[.pointer (some ⟨sb,0,none⟩)] #[]].toArray 51 (0,0))]]
theorem sayings_g (sb:Nat)(w:World):Calls Tryz.prog 21 [.pointer (some ⟨sb,0,none⟩)].toArray w fun e w'=>∃z:Say,z.Ok∧e= .returned (.map (some z.m))∧Hp ⟨w,[]⟩ (sayS sb z) w':=by
 refine V.calls [] Tryz.func21 rfl Tryz.ntmps21 (Nat.le_of_ble_eq_true rfl) (V.sat_nil _)<|Sq<|Rg<|Lv Av<|Nl<|Ps<|Sq<|Rg<|Le (Eff.makeMap) fun b6 _=>Lv Mv<|Le (CM [] fun w hw hs0=>event_g sb 2 w) fun z0 _=>LeN (Eff.insertN rfl rfl rfl Tryz.underlying64 Tryz.underlying9 (by repeat(first|exact .here|exact .inner .here|exact .inner (.inner .here)|apply Upd.there)) (by simp)) fun _ _=>Lv Mv<|Le (CM [] fun w hw hs0=>event_g sb 3 w) fun z1 _=>LeN (Eff.insertN rfl rfl rfl Tryz.underlying64 Tryz.underlying9 (by repeat(first|exact .here|exact .inner .here|exact .inner (.inner .here)|apply Upd.there)) (by simp)) fun _ _=>Lv Mv<|Le (CM [] fun w hw hs0=>event_g sb 6 w) fun z2 _=>LeN (Eff.insertN rfl rfl rfl Tryz.underlying64 Tryz.underlying9 (by repeat(first|exact .here|exact .inner .here|exact .inner (.inner .here)|apply Upd.there)) (by simp)) fun _ _=>Lv Mv<|Lv Mf<|LeN (Eff.insertN rfl rfl rfl Tryz.underlying64 Tryz.underlying9 (by repeat(first|exact .here|exact .inner .here|exact .inner (.inner .here)|apply Upd.there)) (by simp)) fun _ _=>Lv Mv<|Lv Mf<|LeN (Eff.insertN rfl rfl rfl Tryz.underlying64 Tryz.underlying9 (by repeat(first|exact .here|exact .inner .here|exact .inner (.inner .here)|apply Upd.there)) (by simp)) fun _ _=>Lv Mv<|Lv Mf<|LeN (Eff.insertN rfl rfl rfl Tryz.underlying64 Tryz.underlying9 (by repeat(first|exact .here|exact .inner .here|exact .inner (.inner .here)|apply Upd.there)) (by simp)) fun _ _=>Lv Mv<|Lv Mf<|Le (CM [] fun w hw hs0=>plain_g _ _ _ w) fun q0 _=>LeN (Eff.insertN rfl rfl rfl Tryz.underlying64 Tryz.underlying9 (by repeat(first|exact .here|exact .inner .here|exact .inner (.inner .here)|apply Upd.there)) (by simp)) fun _ _=>Lv Mv<|Lv Mf<|Le (CM [] fun w hw hs0=>plain_g _ _ _ w) fun q1 _=>LeN (Eff.insertN rfl rfl rfl Tryz.underlying64 Tryz.underlying9 (by repeat(first|exact .here|exact .inner .here|exact .inner (.inner .here)|apply Upd.there)) (by simp)) ?_
 intro _ _
 refine Lv Mv<|Lv Mf<|Le (CM [] fun w hw hs0=>plain_g _ _ _ w) fun q2 _=>LeN (Eff.insertN rfl rfl rfl Tryz.underlying64 Tryz.underlying9 (by repeat(first|exact .here|exact .inner .here|exact .inner (.inner .here)|apply Upd.there)) (by simp)) fun _ _=>Lv Mv<|Lv Mf<|Le (CM [] fun w hw hs0=>plain_g _ _ _ w) fun q3 _=>LeN (Eff.insertN rfl rfl rfl Tryz.underlying64 Tryz.underlying9 (by repeat(first|exact .here|exact .inner .here|exact .inner (.inner .here)|apply Upd.there)) (by simp)) fun _ _=>Lv Mv<|Lv Av<|Nl<|Ps<|Sq<|Sq<|Rg<|Le (Eff.buildSlice (rfl) [_,_,_,_,_,_,_,_] Tryz.underlying23 Tryz.sizeOf9 (by exact Tryz.zeroValue9) rfl rfl rfl rfl (by rfl)) fun b32 _=>Lv Ln<|LW.re 33 (.int .i64 8) rfl (by rfl)<|Lv Mv<|Nl<|Ps<|Bk<|CW.loopU 8<|Sq<|Rg<|Lv Cm<|LW.re 35 (.bool true) rfl (by rfl)<|Nl<|Ps<|Sq<|Ct<|Sk<|Ps<|Sq<|Bk<|Sq<|Rg<|Lv (Val.indexAddrN (i:=0) rfl rfl Tryz.underlying23 Tryz.sizeOf9 (by omega))<|Lv (Ld (v:= .string ⟨#[103,101,116]⟩))<|Lv Av<|Nl<|Ps<|Rg<|Lv Mv<|Lv Mv<|Lv Mv<|Lv Mv<|Le (CM [] fun w hw hs0=>calls_g sb [103,101,116] w) fun c0 _=>LeN (Eff.mapUpdateN rfl rfl rfl Tryz.underlying64 Tryz.underlying9 (by repeat(first|exact .here|exact .inner .here|exact .inner (.inner .here)|apply Upd.there)) (by simp)) fun _ _=>Nl<|Bn<|Ps<|Rg<|Lv Ar<|Lv Mv<|Nl<|PQ.next<|Sq<|Rg<|Lv Cm<|LW.re 35 (.bool true) rfl (by rfl)<|Nl<|Ps<|Sq<|Ct<|Sk<|Ps<|Sq<|Bk<|Sq<|Rg<|Lv (Val.indexAddrN (i:=1) rfl rfl Tryz.underlying23 Tryz.sizeOf9 (by omega))<|Lv (Ld (v:= .string ⟨#[112,117,116]⟩))<|Lv Av<|Nl<|Ps<|Rg<|Lv Mv<|Lv Mv<|Lv Mv<|Lv Mv<|Le (CM [] fun w hw hs0=>calls_g sb [112,117,116] w) fun c1 _=>LeN (Eff.mapUpdateN rfl rfl rfl Tryz.underlying64 Tryz.underlying9 (by repeat(first|exact .here|exact .inner .here|exact .inner (.inner .here)|apply Upd.there)) (by simp)) fun _ _=>Nl<|Bn<|Ps<|Rg<|Lv Ar<|Lv Mv<|Nl<|PQ.next<|Sq<|Rg<|Lv Cm<|LW.re 35 (.bool true) rfl (by rfl)<|Nl<|Ps<|Sq<|Ct<|Sk<|Ps<|Sq<|Bk<|Sq<|Rg<|Lv (Val.indexAddrN (i:=2) rfl rfl Tryz.underlying23 Tryz.sizeOf9 (by omega))<|Lv (Ld (v:= .string ⟨#[100,101,108]⟩))<|Lv Av<|Nl<|Ps<|Rg<|Lv Mv<|Lv Mv<|Lv Mv<|Lv Mv<|Le (CM [] fun w hw hs0=>calls_g sb [100,101,108] w) ?_
 intro c2 _
 refine LeN (Eff.mapUpdateN rfl rfl rfl Tryz.underlying64 Tryz.underlying9 (by repeat(first|exact .here|exact .inner .here|exact .inner (.inner .here)|apply Upd.there)) (by simp)) fun _ _=>Nl<|Bn<|Ps<|Rg<|Lv Ar<|Lv Mv<|Nl<|PQ.next<|Sq<|Rg<|Lv Cm<|LW.re 35 (.bool true) rfl (by rfl)<|Nl<|Ps<|Sq<|Ct<|Sk<|Ps<|Sq<|Bk<|Sq<|Rg<|Lv (Val.indexAddrN (i:=3) rfl rfl Tryz.underlying23 Tryz.sizeOf9 (by omega))<|Lv (Ld (v:= .string ⟨#[101,110,113]⟩))<|Lv Av<|Nl<|Ps<|Rg<|Lv Mv<|Lv Mv<|Lv Mv<|Lv Mv<|Le (CM [] fun w hw hs0=>calls_g sb [101,110,113] w) fun c3 _=>LeN (Eff.mapUpdateN rfl rfl rfl Tryz.underlying64 Tryz.underlying9 (by repeat(first|exact .here|exact .inner .here|exact .inner (.inner .here)|apply Upd.there)) (by simp)) fun _ _=>Nl<|Bn<|Ps<|Rg<|Lv Ar<|Lv Mv<|Nl<|PQ.next<|Sq<|Rg<|Lv Cm<|LW.re 35 (.bool true) rfl (by rfl)<|Nl<|Ps<|Sq<|Ct<|Sk<|Ps<|Sq<|Bk<|Sq<|Rg<|Lv (Val.indexAddrN (i:=4) rfl rfl Tryz.underlying23 Tryz.sizeOf9 (by omega))<|Lv (Ld (v:= .string ⟨#[100,101,113]⟩))<|Lv Av<|Nl<|Ps<|Rg<|Lv Mv<|Lv Mv<|Lv Mv<|Lv Mv<|Le (CM [] fun w hw hs0=>calls_g sb [100,101,113] w) fun c4 _=>LeN (Eff.mapUpdateN rfl rfl rfl Tryz.underlying64 Tryz.underlying9 (by repeat(first|exact .here|exact .inner .here|exact .inner (.inner .here)|apply Upd.there)) (by simp)) fun _ _=>Nl<|Bn<|Ps<|Rg<|Lv Ar<|Lv Mv<|Nl<|PQ.next<|Sq<|Rg<|Lv Cm<|LW.re 35 (.bool true) rfl (by rfl)<|Nl<|Ps<|Sq<|Ct<|Sk<|Ps<|Sq<|Bk<|Sq<|Rg<|Lv (Val.indexAddrN (i:=5) rfl rfl Tryz.underlying23 Tryz.sizeOf9 (by omega))<|Lv (Ld (v:= .string ⟨#[115,99,97,110]⟩))<|Lv Av<|Nl<|Ps<|Rg<|Lv Mv<|Lv Mv<|Lv Mv<|Lv Mv<|Le (CM [] fun w hw hs0=>calls_g sb [115,99,97,110] w) fun c5 _=>LeN (Eff.mapUpdateN rfl rfl rfl Tryz.underlying64 Tryz.underlying9 (by repeat(first|exact .here|exact .inner .here|exact .inner (.inner .here)|apply Upd.there)) (by simp)) fun _ _=>Nl<|Bn<|Ps<|Rg<|Lv Ar<|Lv Mv<|Nl<|PQ.next<|Sq<|Rg<|Lv Cm<|LW.re 35 (.bool true) rfl (by rfl)<|Nl<|Ps<|Sq<|Ct<|Sk<|Ps<|Sq<|Bk<|Sq<|Rg<|Lv (Val.indexAddrN (i:=6) rfl rfl Tryz.underlying23 Tryz.sizeOf9 (by omega))<|Lv (Ld (v:= .string ⟨#[115,121,110,99]⟩))<|Lv Av<|Nl<|Ps<|Rg<|Lv Mv<|Lv Mv<|Lv Mv<|Lv Mv<|Le (CM [] fun w hw hs0=>calls_g sb [115,121,110,99] w) ?_
 intro c6 _
 refine LeN (Eff.mapUpdateN rfl rfl rfl Tryz.underlying64 Tryz.underlying9 (by repeat(first|exact .here|exact .inner .here|exact .inner (.inner .here)|apply Upd.there)) (by simp)) fun _ _=>Nl<|Bn<|Ps<|Rg<|Lv Ar<|Lv Mv<|Nl<|PQ.next<|Sq<|Rg<|Lv Cm<|LW.re 35 (.bool true) rfl (by rfl)<|Nl<|Ps<|Sq<|Ct<|Sk<|Ps<|Sq<|Bk<|Sq<|Rg<|Lv (Val.indexAddrN (i:=7) rfl rfl Tryz.underlying23 Tryz.sizeOf9 (by omega))<|Lv (Ld (v:= .string ⟨#[103,114,111,117,112]⟩))<|Lv Av<|Nl<|Ps<|Rg<|Lv Mv<|Lv Mv<|Lv Mv<|Lv Mv<|Le (CM [] fun w hw hs0=>calls_g sb [103,114,111,117,112] w) fun c7 _=>LeN (Eff.mapUpdateN rfl rfl rfl Tryz.underlying64 Tryz.underlying9 (by repeat(first|exact .here|exact .inner .here|exact .inner (.inner .here)|apply Upd.there)) (by simp)) fun _ _=>Nl<|Bn<|Ps<|Rg<|Lv Ar<|Lv Mv<|Nl<|PQ.next<|Sq<|Rg<|Lv Cm<|LW.re 35 (.bool false) rfl (by rfl)<|Nl<|Ps<|Sq<|Cf<|Xt<|Te<|Te<|Bh<|Ps<|Sq<|Rg<|Lv Mv<|Lv Av<|Nl<|Ps<|Rt<|Rt1 ?_
 intro w' hw;exact⟨⟨_,_,_,z0.1,z0.2,c1.1,c1.2,q0,q1⟩,⟨by kernel_rfl,by kernel_rfl,by kernel_rfl,by kernel_rfl⟩,rfl,hw.pick (by repeat(first|exact .nil|apply Pick.cons|exact .here|apply Ext.there))⟩
theorem places59:∀w,((Array.mapM (fun(f:Field)=>do pure (f.offset,← sizeOf f.type)) (Tryz.prog.fieldsOf 59):Sem (Array (Nat×Nat)))).run Tryz.prog w= .ok [(0,1),(1,1)].toArray w:=by
 intro w;kernel_rfl
theorem places74:∀w,((Array.mapM (fun(f:Field)=>do pure (f.offset,← sizeOf f.type)) (Tryz.prog.fieldsOf 74):Sem (Array (Nat×Nat)))).run Tryz.prog w= .ok [(0,1),(1,1),(2,1)].toArray w:=by
 intro w;kernel_rfl
instance:Plc Tryz.prog 59 (fOf Tryz.underlying59) (lOf (P:=Tryz.prog) places59):=⟨places59,Tryz.underlying59⟩
instance:Plc Tryz.prog 74 (fOf Tryz.underlying74) (lOf (P:=Tryz.prog) places74):=⟨places74,Tryz.underlying74⟩
instance:Cal Tryz.prog 20:=⟨Tryz.call20⟩
instance:Cal Tryz.prog 21:=⟨Tryz.call21⟩
instance:Cal Tryz.prog 22:=⟨Tryz.call22⟩
instance:Cal Tryz.prog 28:=⟨Tryz.call28⟩
theorem fresh_g (sb:Nat)(tb:Nat)(W:V.Seg)(gp:Option Addr)(n c:Nat)(hW:WsAt W gp [[49,48],[49],[48]])(hn:n=3)(hc:n≤c)(w:World)(hs:Sat [[(sb,.cells [.pointer none].toArray 35 (0,0))],[(tb,.cells (tkrC gp n c false).toArray 59 (0,0))],W] w):Calls Tryz.prog 20 [.pointer (some ⟨sb,0,none⟩),.pointer (some ⟨tb,0,none⟩)].toArray w fun e w'=>∃y:Nat×V.Seg,Aw 0 y.1 y.2∧e= .returned (str [111,107])∧Hp ⟨w,V.ids ([[(sb,.cells [.pointer none].toArray 35 (0,0))],[(tb,.cells (tkrC gp n c false).toArray 59 (0,0))],W])⟩ ([[(sb,.cells [.pointer (some ⟨y.1,0,none⟩)].toArray 35 (0,0))],y.2,W]) w':=by
 subst hn
 have hW2:=hW.tl (c:=c) (by simpa using hc)
 have hW3:=hW2.tl (c:=c-1) (by simp;omega)
 refine V.calls [[(sb,.cells [.pointer none].toArray 35 (0,0))],[(tb,.cells (tkrC gp 3 c false).toArray 59 (0,0))],W] Tryz.func20 rfl Tryz.ntmps20 (Nat.le_of_ble_eq_true rfl) hs<|Sq<|Rg<|Lv Av<|Nl<|Ps<|Sq<|Rg<|Lv Mv<|Le (CM ([[(tb,.cells (tkrC gp 3 c false).toArray 59 (0,0))],W]) fun w hw hs0=>number_g tb W gp 3 c [49,48] [[49],[48]] hW rfl (by omega) 10 (by decide) (by decide) (by decide) w hs0) fun _ _=>Lv Mv<|Le (CM ([[(tb,.cells (tkrC (if c=1 then gp else gp.map (·.add (1*1))) 2 (c-1) false).toArray 59 (0,0))],W]) fun w hw hs0=>number_g tb W (if c=1 then gp else gp.map (·.add (1*1))) 2 (c-1) [49] [[48]] hW2 rfl (by omega) 1 (by decide) (by decide) (by decide) w hs0) fun _ _=>Lv Mv<|Le (CM ([[(tb,.cells (tkrC (if(c-1)=1 then(if c=1 then gp else gp.map (·.add (1*1))) else((if c=1 then gp else gp.map (·.add (1*1)))).map (·.add (1*1))) 1 (c-1-1) false).toArray 59 (0,0))],W]) fun w hw hs0=>number_g tb W (if(c-1)=1 then(if c=1 then gp else gp.map (·.add (1*1))) else((if c=1 then gp else gp.map (·.add (1*1)))).map (·.add (1*1))) 1 (c-1-1) [48] [] hW3 rfl (by omega) 0 (by decide) (by decide) (by decide) w hs0) fun _ _=>Lv (Bd [.int .i64 10,.int .i64 1,.int .i64 0])<|Le AA fun b5 _=>LeN (StW (cs:=[.int .i64 10,.int .i64 1,.int .i64 0])) fun _ _=>Nl<|Ps<|Sq<|Sq<|Rg<|Lv Mv<|Le (CV fun w hw=>whole_g tb _ 0 _ false w (hw.sat.pick (by repeat(first|exact .nil|apply Pick.cons|exact .here|apply Ext.there)))) fun _ _=>Lv Nt<|LW.re 17 (.bool false) rfl (by rfl)<|Nl<|Ps<|Cf<|Sk<|Ps<|Sq<|Rg<|Lv (Lw (l:=[.int .i64 10,.int .i64 1,.int .i64 0]))<|Le (CM [] fun w hw hs0=>aw_new w) fun y hy=>Lv Mv<|Lv Ex<|Lv Ex<|Lv Av<|Lv Av<|Nl<|Ps<|Sq<|Sq<|Rg<|Lv Mv<|Lv Cm<|LW.re 24 (.bool false) rfl (by rfl)<|Nl<|Ps<|Cf<|Sk<|Ps<|Sq<|Rg<|Lv Mv<|Lv Mv<|Lv Nz<|Lv (Fa 0 33)<|LeN StS ?_
 intro _ _
 refine Nl<|Ps<|Sq<|Rg<|Lv Av<|Nl<|Ps<|Rt<|Rt1 ?_
 intro w' hw;exact⟨y,hy,rfl,hw.pick (by repeat(first|exact .nil|apply Pick.cons|exact .here|apply Ext.there))⟩
theorem line_err (sb:Nat)(W:V.Seg)(gp:Option Addr)(n c:Nat)(x:List UInt8)(r:List (List UInt8))(hW:WsAt W gp (x::r))(hn:n=r.length+1)(hc:n≤c)(hx:x≠[110,101,119])(w:World)(hs:Sat [[(sb,.cells [.pointer none].toArray 35 (0,0))],W] w):Calls Tryz.prog 14 [.pointer (some ⟨sb,0,none⟩),.slice gp n c].toArray w fun e w'=>∃_u:Unit,True∧e= .returned (str [101,114,114,111,114])∧Hp ⟨w,V.ids ([[(sb,.cells [.pointer none].toArray 35 (0,0))],W])⟩ ([[(sb,.cells [.pointer none].toArray 35 (0,0))],W]) w':=by
 subst hn
 obtain⟨b,o,rfl⟩:=hW.hd (hs.pick (ss:=[W]) (by repeat(first|exact .nil|apply Pick.cons|exact .here|apply Ext.there)))
 refine V.calls [[(sb,.cells [.pointer none].toArray 35 (0,0))],W] Tryz.func14 rfl Tryz.ntmps14 (Nat.le_of_ble_eq_true rfl) hs<|Sq<|Rg<|Lv Av<|Nl<|Ps<|Sq<|Rg<|Lv Mv<|Lv (V.Val.sliceG 1 (r.length+1) c rfl Tryz.underlying23 Tryz.sizeOf9 ⟨_,rfl⟩ rfl rfl (fun _=>rfl) (by omega) (by omega) (by omega))<|Lv (Bd (tkrC (if c=1 then(some (⟨b,o,none⟩:Addr)) else((some (⟨b,o,none⟩:Addr))).map (·.add (1*1))) r.length (c-1) false))<|Le XA fun b12 _=>Lv Av<|Nl<|Ps<|Sq<|Sq<|Rg<|Lv Mv<|Lv (Val.indexAddrN (i:=0) rfl rfl Tryz.underlying23 Tryz.sizeOf9 (by omega))<|Lv (V.Val.loadH rfl Tryz.isAgg9 (fun w hw=>hW.cell (hw.sat.pick (ss:=[W]) (by repeat(first|exact .nil|apply Pick.cons|exact .here|apply Ext.there)))))<|Lv ES<|LW.re 16 (.bool false) rfl (by simp[str,hx])<|Nl<|Ps<|Cf<|Sk<|Ps<|Sq<|Dr ([W])<|Rv 0 rfl Mv<|Rv 2 rfl Mv<|Rv 3 rfl (Val.indexAddrN (i:=0) rfl rfl Tryz.underlying23 Tryz.sizeOf9 (by omega))<|Rv 4 rfl (V.Val.loadH rfl Tryz.isAgg9 (fun w hw=>hW.cell (hw.sat.pick (ss:=[W]) (by repeat(first|exact .nil|apply Pick.cons|exact .here|apply Ext.there)))))<|Re 1 rfl (CM [] fun w hw hs0=>sayings_g sb w) fun z hz=>Re 5 rfl (Eff.ofVal (Val.lookup (z:= .nilFunc) rfl rfl Tryz.underlying64 Tryz.underlying9 (by exact Tryz.zeroValue62) (by repeat(first|exact .here|exact .inner .here|exact .inner (.inner .here)|refine .there ?_)))) fun _ _=>Rv 6 rfl Mv<|Rv 7 rfl Ex<|Rv 8 rfl Ex<|Rv 9 rfl Av<|Rv 10 rfl Av<|Rd<|Ps<|Sq<|Sq<|Rg<|Lv Mv<|Lv Nt<|Lv Mv ?_
 refine LW.split (d:=31) rfl (fun h31=>?_) (fun h31=>?_)
 ·replace h31:=bT h31
  refine Lp<|Lp<|Lp<|Lp<|Lp<|Lv Pt<|Nl<|Ps<|Ct<|Sq<|Rg<|Lv Av<|Nl<|Ps<|Rt<|Tr<|Rt1 ?_
  intro w' hw;exact⟨(),trivial,rfl,hw.pick (by repeat(first|exact .nil|apply Pick.cons|exact .here|apply Ext.there))⟩
 ·replace h31:=bF h31
  refine Lv Mv<|Lv Nz<|Lv (Fa 0 33)<|Lv Ld<|Lv EP0<|Lv Pf<|Nl<|Ps<|Ct<|Sq<|Rg<|Lv Av<|Nl<|Ps<|Rt<|Tr<|Rt1 ?_
  intro w' hw;exact⟨(),trivial,rfl,hw.pick (by repeat(first|exact .nil|apply Pick.cons|exact .here|apply Ext.there))⟩
theorem aw_P (wb k:Nat)(S:V.Seg)(hk:k≤6)(hA:Aw (min (k+1) 7) wb S)(w:World)(hs:Sat [S] w):Calls Tryz.prog 52 [.pointer (some ⟨wb,0,none⟩),.agg (evC ⟨2,((0:Nat):Int),0,kal0⟩ (.slice none 0 0) (.slice none 0 0)).toArray].toArray w fun e w'=>∃S1,Aw (min (k+1+1) 7) wb S1∧e= .returned (.int .i64 (if k<6 then 0 else 12))∧Hp ⟨w,V.ids [S]⟩ [S1] w':=by
 rcases Nat.lt_or_ge k 5 with h|h
 ·rw[Nat.min_eq_left (by omega)] at hA⊢
  rw[if_pos (by omega)]
  exact aw_step k wb S (by omega) hA w hs
 ·rcases Nat.lt_or_ge k 6 with h2|h2
  ·obtain rfl:k=5:=by omega
   exact aw_fin 5 wb S rfl hA w hs
  ·obtain rfl:k=6:=by omega
   exact(aw_idle wb S hA w hs).mono fun e w' ⟨_,_,h3,h4⟩=>⟨S,hA,h3,h4⟩
theorem line_new (sb:Nat)(W:V.Seg)(gp:Option Addr)(n c:Nat)(hW:WsAt W gp ([110,101,119]::[[49,48],[49],[48]]))(hn:n=4)(hc:n≤c)(w:World)(hs:Sat [[(sb,.cells [.pointer none].toArray 35 (0,0))],W] w):Calls Tryz.prog 14 [.pointer (some ⟨sb,0,none⟩),.slice gp n c].toArray w fun e w'=>∃y:Nat×V.Seg,Aw 0 y.1 y.2∧e= .returned (str [111,107])∧Hp ⟨w,V.ids ([[(sb,.cells [.pointer none].toArray 35 (0,0))],W])⟩ ([[(sb,.cells [.pointer (some ⟨y.1,0,none⟩)].toArray 35 (0,0))],y.2,W]) w':=by
 subst hn
 obtain⟨b,o,rfl⟩:=hW.hd (hs.pick (ss:=[W]) (by repeat(first|exact .nil|apply Pick.cons|exact .here|apply Ext.there)))
 have hW2:=hW.tl (c:=c) (by simpa using hc)
 refine V.calls [[(sb,.cells [.pointer none].toArray 35 (0,0))],W] Tryz.func14 rfl Tryz.ntmps14 (Nat.le_of_ble_eq_true rfl) hs<|Sq<|Rg<|Lv Av<|Nl<|Ps<|Sq<|Rg<|Lv Mv<|Lv (V.Val.sliceG 1 4 c rfl Tryz.underlying23 Tryz.sizeOf9 ⟨_,rfl⟩ rfl rfl (fun _=>rfl) (by omega) (by omega) (by omega))<|Lv (Bd (tkrC (if c=1 then(some (⟨b,o,none⟩:Addr)) else((some (⟨b,o,none⟩:Addr))).map (·.add (1*1))) 3 (c-1) false))<|Le XA fun b12 _=>Lv Av<|Nl<|Ps<|Sq<|Sq<|Rg<|Lv Mv<|Lv (Val.indexAddrN (i:=0) rfl rfl Tryz.underlying23 Tryz.sizeOf9 (by omega))<|Lv (V.Val.loadH rfl Tryz.isAgg9 (fun w hw=>hW.cell (hw.sat.pick (ss:=[W]) (by repeat(first|exact .nil|apply Pick.cons|exact .here|apply Ext.there)))))<|Lv ES<|LW.re 16 (.bool true) rfl (by rfl)<|Nl<|Ps<|Ct<|Sq<|Rg<|Lv Mv<|Lv Mv<|Le (CM ([[(sb,.cells [.pointer none].toArray 35 (0,0))],[(b12,.cells (tkrC (if c=1 then(some (⟨b,o,none⟩:Addr)) else((some (⟨b,o,none⟩:Addr))).map (·.add (1*1))) 3 (c-1) false).toArray 59 (0,0))],W]) fun w hw hs0=>fresh_g sb b12 W (if c=1 then(some (⟨b,o,none⟩:Addr)) else((some (⟨b,o,none⟩:Addr))).map (·.add (1*1))) 3 (c-1) hW2 rfl (by omega) w hs0) fun y hy=>Lv Av<|Nl<|Ps<|Rt<|Tr<|Rt1 ?_
 intro w' hw;exact⟨y,hy,rfl,hw.pick (by repeat(first|exact .nil|apply Pick.cons|exact .here|apply Ext.there))⟩
theorem line_put (sb wb:Nat)(S W:V.Seg)(gp:Option Addr)(n c:Nat)(hW:WsAt W gp ([112,117,116]::[[48],[97],[49]]))(hn:n=4)(hc:n≤c)(hA:Aw 0 wb S)(w:World)(hs:Sat [[(sb,.cells [.pointer (some ⟨wb,0,none⟩)].toArray 35 (0,0))],W,S] w):Calls Tryz.prog 14 [.pointer (some ⟨sb,0,none⟩),.slice gp n c].toArray w fun e w'=>∃S1:V.Seg,Aw 1 wb S1∧e= .returned (str (smallF 0))∧Hp ⟨w,V.ids ([[(sb,.cells [.pointer (some ⟨wb,0,none⟩)].toArray 35 (0,0))],W,S])⟩ ([[(sb,.cells [.pointer (some ⟨wb,0,none⟩)].toArray 35 (0,0))],W,S1]) w':=by
 subst hn
 obtain⟨b,o,rfl⟩:=hW.hd (hs.pick (ss:=[W]) (by repeat(first|exact .nil|apply Pick.cons|exact .here|apply Ext.there)))
 have hW2:=hW.tl (c:=c) (by simpa using hc)
 refine V.calls [[(sb,.cells [.pointer (some ⟨wb,0,none⟩)].toArray 35 (0,0))],W,S] Tryz.func14 rfl Tryz.ntmps14 (Nat.le_of_ble_eq_true rfl) hs<|Sq<|Rg<|Lv Av<|Nl<|Ps<|Sq<|Rg<|Lv Mv<|Lv (V.Val.sliceG 1 4 c rfl Tryz.underlying23 Tryz.sizeOf9 ⟨_,rfl⟩ rfl rfl (fun _=>rfl) (by omega) (by omega) (by omega))<|Lv (Bd (tkrC (if c=1 then(some (⟨b,o,none⟩:Addr)) else((some (⟨b,o,none⟩:Addr))).map (·.add (1*1))) 3 (c-1) false))<|Le XA fun b12 _=>Lv Av<|Nl<|Ps<|Sq<|Sq<|Rg<|Lv Mv<|Lv (Val.indexAddrN (i:=0) rfl rfl Tryz.underlying23 Tryz.sizeOf9 (by omega))<|Lv (V.Val.loadH rfl Tryz.isAgg9 (fun w hw=>hW.cell (hw.sat.pick (ss:=[W]) (by repeat(first|exact .nil|apply Pick.cons|exact .here|apply Ext.there)))))<|Lv ES<|LW.re 16 (.bool false) rfl (by rfl)<|Nl<|Ps<|Cf<|Sk<|Ps<|Sq<|Dr ([W])<|Rv 0 rfl Mv<|Rv 2 rfl Mv<|Rv 3 rfl (Val.indexAddrN (i:=0) rfl rfl Tryz.underlying23 Tryz.sizeOf9 (by omega))<|Rv 4 rfl (V.Val.loadH rfl Tryz.isAgg9 (fun w hw=>hW.cell (hw.sat.pick (ss:=[W]) (by repeat(first|exact .nil|apply Pick.cons|exact .here|apply Ext.there)))))<|Re 1 rfl (CM [] fun w hw hs0=>sayings_g sb w) fun z hz=>Re 5 rfl (Eff.ofVal (Val.lookup (z:= .nilFunc) rfl rfl Tryz.underlying64 Tryz.underlying9 (by exact Tryz.zeroValue62) (by repeat(first|exact .here|exact .inner .here|exact .inner (.inner .here)|refine .there ?_)))) fun _ _=>RW.re 26 (.tuple #[.func (.func 70) #[] #[.pointer (some ⟨z.p1,0,none⟩),.pointer (some ⟨z.p2,0,none⟩)],.bool true]) rfl (by rw[show V.mget z.E ⟨#[112,117,116]⟩=some (.func (.func 70) #[] #[.pointer (some ⟨z.p1,0,none⟩),.pointer (some ⟨z.p2,0,none⟩)]) from hz.2.1];rfl)<|Rv 6 rfl Mv<|Rv 7 rfl Ex<|Rv 8 rfl Ex<|Rv 9 rfl Av<|Rv 10 rfl Av<|Rd<|Ps<|Sq<|Sq<|Rg<|Lv Mv<|Lv Nt<|Lv Mv<|Lv Mv<|Lv Nz<|Lv (Fa 0 33)<|Lv (Ld (v:= .pointer (some ⟨wb,0,none⟩)))<|Lv EP<|Lv Pf<|Nl<|Ps<|Cf<|Sk<|Ps<|Sq<|Rg<|Lv Mv<|Lv Mv<|Le (Eff.callFM (f:=70) (caps:=[.pointer (some ⟨z.p1,0,none⟩),.pointer (some ⟨z.p2,0,none⟩)]) ([[(b12,.cells (tkrC (if c=1 then(some (⟨b,o,none⟩:Addr)) else((some (⟨b,o,none⟩:Addr))).map (·.add (1*1))) 3 (c-1) false).toArray 59 (0,0))],W,[(z.p1,.cells [str [112,117,116]].toArray 9 (0,0))]]) (by repeat(first|exact .nil|apply Pick.cons|exact .here|apply Ext.there)) rfl rfl Tryz.call70 (fun w hw hs0=>calls1_g b12 W (if c=1 then(some (⟨b,o,none⟩:Addr)) else((some (⟨b,o,none⟩:Addr))).map (·.add (1*1))) 3 (c-1) z.p1 z.p2 [48] [97] [49] hW2 rfl (by omega) 0 (by decide) (by decide) (by decide) (by decide) (by decide) w hs0)) ?_
 rintro⟨T,nb,cb⟩ ⟨gp2,c2,rfl⟩
 refine Lv Av<|Nl<|Ps<|Sq<|Sq<|Rg<|Lv Mv<|Le (CV fun w hw=>whole_g b12 gp2 0 c2 false w (hw.sat.pick (by repeat(first|exact .nil|apply Pick.cons|exact .here|apply Ext.there)))) fun _ _=>Lv Nt<|LW.re 43 (.bool false) rfl (by rfl)<|Nl<|Ps<|Cf<|Sk<|Ps<|Sq<|Rg<|Lv Mv<|Le (Eff.callFM (f:=72) (caps:=[.pointer (some ⟨z.p2,0,none⟩),.pointer (some ⟨nb,0,none⟩),.pointer (some ⟨cb,0,none⟩)]) ([[(z.p2,.cells [.pointer (some ⟨sb,0,none⟩)].toArray 32 (0,0))],[(nb,.cells [.int .i64 ((0:Nat):Int)].toArray 3 (0,0))],[(cb,.cells (klC ⟨2,[97],[49],[]⟩ (.slice none 0 0)).toArray 91 (0,0))],[(sb,.cells [.pointer (some ⟨wb,0,none⟩)].toArray 35 (0,0))],S]) (by repeat(first|exact .nil|apply Pick.cons|exact .here|apply Ext.there)) rfl rfl Tryz.call72 (fun w hw hs0=>calls11_g z.p2 nb cb sb wb 0 [97] [49] S 0 (by omega) (fun S1=>Aw 1 wb S1) (fun w hs=>aw_call wb S hA w hs) w hs0)) fun S1 hS1=>Lv Av<|Nl<|Ps<|Rt<|Rt1 ?_
 intro w' hw;exact⟨S1,hS1,rfl,hw.pick (by repeat(first|exact .nil|apply Pick.cons|exact .here|apply Ext.there))⟩
theorem line_step (sb wb:Nat)(S W:V.Seg)(gp:Option Addr)(n c:Nat)(hW:WsAt W gp ([115,116,101,112]::[[48],[57]]))(hn:n=3)(hc:n≤c)(hA:Aw 1 wb S)(w:World)(hs:Sat [[(sb,.cells [.pointer (some ⟨wb,0,none⟩)].toArray 35 (0,0))],W,S] w):Calls Tryz.prog 14 [.pointer (some ⟨sb,0,none⟩),.slice gp n c].toArray w fun e w'=>∃S1:V.Seg,Aw 7 wb S1∧e= .returned (str (smallF 6))∧Hp ⟨w,V.ids ([[(sb,.cells [.pointer (some ⟨wb,0,none⟩)].toArray 35 (0,0))],W,S])⟩ ([[(sb,.cells [.pointer (some ⟨wb,0,none⟩)].toArray 35 (0,0))],W,S1]) w':=by
 subst hn
 obtain⟨b,o,rfl⟩:=hW.hd (hs.pick (ss:=[W]) (by repeat(first|exact .nil|apply Pick.cons|exact .here|apply Ext.there)))
 have hW2:=hW.tl (c:=c) (by simpa using hc)
 refine V.calls [[(sb,.cells [.pointer (some ⟨wb,0,none⟩)].toArray 35 (0,0))],W,S] Tryz.func14 rfl Tryz.ntmps14 (Nat.le_of_ble_eq_true rfl) hs<|Sq<|Rg<|Lv Av<|Nl<|Ps<|Sq<|Rg<|Lv Mv<|Lv (V.Val.sliceG 1 3 c rfl Tryz.underlying23 Tryz.sizeOf9 ⟨_,rfl⟩ rfl rfl (fun _=>rfl) (by omega) (by omega) (by omega))<|Lv (Bd (tkrC (if c=1 then(some (⟨b,o,none⟩:Addr)) else((some (⟨b,o,none⟩:Addr))).map (·.add (1*1))) 2 (c-1) false))<|Le XA fun b12 _=>Lv Av<|Nl<|Ps<|Sq<|Sq<|Rg<|Lv Mv<|Lv (Val.indexAddrN (i:=0) rfl rfl Tryz.underlying23 Tryz.sizeOf9 (by omega))<|Lv (V.Val.loadH rfl Tryz.isAgg9 (fun w hw=>hW.cell (hw.sat.pick (ss:=[W]) (by repeat(first|exact .nil|apply Pick.cons|exact .here|apply Ext.there)))))<|Lv ES<|LW.re 16 (.bool false) rfl (by rfl)<|Nl<|Ps<|Cf<|Sk<|Ps<|Sq<|Dr ([W])<|Rv 0 rfl Mv<|Rv 2 rfl Mv<|Rv 3 rfl (Val.indexAddrN (i:=0) rfl rfl Tryz.underlying23 Tryz.sizeOf9 (by omega))<|Rv 4 rfl (V.Val.loadH rfl Tryz.isAgg9 (fun w hw=>hW.cell (hw.sat.pick (ss:=[W]) (by repeat(first|exact .nil|apply Pick.cons|exact .here|apply Ext.there)))))<|Re 1 rfl (CM [] fun w hw hs0=>sayings_g sb w) fun z hz=>Re 5 rfl (Eff.ofVal (Val.lookup (z:= .nilFunc) rfl rfl Tryz.underlying64 Tryz.underlying9 (by exact Tryz.zeroValue62) (by repeat(first|exact .here|exact .inner .here|exact .inner (.inner .here)|refine .there ?_)))) fun _ _=>RW.re 26 (.tuple #[.func (.func 47) #[] #[.pointer (some ⟨z.s1,0,none⟩),.pointer (some ⟨z.s2,0,none⟩)],.bool true]) rfl (by rw[show V.mget z.E ⟨#[115,116,101,112]⟩=some (.func (.func 47) #[] #[.pointer (some ⟨z.s1,0,none⟩),.pointer (some ⟨z.s2,0,none⟩)]) from hz.1];rfl)<|Rv 6 rfl Mv<|Rv 7 rfl Ex<|Rv 8 rfl Ex<|Rv 9 rfl Av<|Rv 10 rfl Av<|Rd<|Ps<|Sq<|Sq<|Rg<|Lv Mv<|Lv Nt<|Lv Mv<|Lv Mv<|Lv Nz<|Lv (Fa 0 33)<|Lv (Ld (v:= .pointer (some ⟨wb,0,none⟩)))<|Lv EP<|Lv Pf<|Nl<|Ps<|Cf<|Sk<|Ps<|Sq<|Rg<|Lv Mv<|Lv Mv<|Le (Eff.callFM (f:=47) (caps:=[.pointer (some ⟨z.s1,0,none⟩),.pointer (some ⟨z.s2,0,none⟩)]) ([[(b12,.cells (tkrC (if c=1 then(some (⟨b,o,none⟩:Addr)) else((some (⟨b,o,none⟩:Addr))).map (·.add (1*1))) 2 (c-1) false).toArray 59 (0,0))],W,[(z.s1,.cells [.int .i64 2].toArray 3 (0,0))]]) (by repeat(first|exact .nil|apply Pick.cons|exact .here|apply Ext.there)) rfl rfl Tryz.call47 (fun w hw hs0=>ev1_g b12 W (if c=1 then(some (⟨b,o,none⟩:Addr)) else((some (⟨b,o,none⟩:Addr))).map (·.add (1*1))) 2 (c-1) z.s1 z.s2 [48] [57] hW2 rfl (by omega) 0 9 (by decide) (by decide) (by decide) (by decide) (by decide) (by decide) (by decide) w hs0)) ?_
 rintro⟨T,nb,eb⟩ ⟨gp2,c2,rfl⟩
 refine Lv Av<|Nl<|Ps<|Sq<|Sq<|Rg<|Lv Mv<|Le (CV fun w hw=>whole_g b12 gp2 0 c2 false w (hw.sat.pick (by repeat(first|exact .nil|apply Pick.cons|exact .here|apply Ext.there)))) fun _ _=>Lv Nt<|LW.re 43 (.bool false) rfl (by rfl)<|Nl<|Ps<|Cf<|Sk<|Ps<|Sq<|Rg<|Lv Mv<|Le (Eff.callFM (f:=49) (caps:=[.pointer (some ⟨nb,0,none⟩),.pointer (some ⟨z.s2,0,none⟩),.pointer (some ⟨eb,0,none⟩)]) ([[(nb,.cells [.int .i64 ((9:Nat):Int)].toArray 3 (0,0))],[(z.s2,.cells [.pointer (some ⟨sb,0,none⟩)].toArray 32 (0,0))],[(eb,.cells (evC (⟨2,((0:Nat):Int),0,kal0⟩:Evt) (.slice none 0 0) (.slice none 0 0)).toArray 111 (0,0))],[(sb,.cells [.pointer (some ⟨wb,0,none⟩)].toArray 35 (0,0))],S]) (by repeat(first|exact .nil|apply Pick.cons|exact .here|apply Ext.there)) rfl rfl Tryz.call49 (fun w hw hs0=>ev11_g nb z.s2 eb sb wb (⟨2,((0:Nat):Int),0,kal0⟩:Evt) 9 6 (by omega) (by omega) (by omega) 12 (by omega) (fun k S=>Aw (min (k+1) 7) wb S) (fun k S w hk hP hs=>aw_P wb k S hk hP w hs) S hA w hs0)) fun S1 hS1=>Lv Av<|Nl<|Ps<|Rt<|Rt1 ?_
 intro w' hw;exact⟨S1,hS1,rfl,hw.pick (by repeat(first|exact .nil|apply Pick.cons|exact .here|apply Ext.there))⟩
theorem line_shelf (sb wb:Nat)(S W:V.Seg)(gp:Option Addr)(n c:Nat)(hW:WsAt W gp ([115,104,101,108,102]::[]))(hn:n=1)(hc:n≤c)(hA:Aw 7 wb S)(w:World)(hs:Sat [[(sb,.cells [.pointer (some ⟨wb,0,none⟩)].toArray 35 (0,0))],W,S] w):Calls Tryz.prog 14 [.pointer (some ⟨sb,0,none⟩),.slice gp n c].toArray w fun e w'=>∃_u:Unit,True∧e= .returned (str (Go.Lib.join [pairL [97] [49],[47]] [32]))∧Hp ⟨w,V.ids ([[(sb,.cells [.pointer (some ⟨wb,0,none⟩)].toArray 35 (0,0))],W,S])⟩ ([[(sb,.cells [.pointer (some ⟨wb,0,none⟩)].toArray 35 (0,0))],W,S]) w':=by
 subst hn
 obtain⟨b,o,rfl⟩:=hW.hd (hs.pick (ss:=[W]) (by repeat(first|exact .nil|apply Pick.cons|exact .here|apply Ext.there)))
 have hW2:=hW.tl (c:=c) (by simpa using hc)
 refine V.calls [[(sb,.cells [.pointer (some ⟨wb,0,none⟩)].toArray 35 (0,0))],W,S] Tryz.func14 rfl Tryz.ntmps14 (Nat.le_of_ble_eq_true rfl) hs<|Sq<|Rg<|Lv Av<|Nl<|Ps<|Sq<|Rg<|Lv Mv<|Lv (V.Val.sliceG 1 1 c rfl Tryz.underlying23 Tryz.sizeOf9 ⟨_,rfl⟩ rfl rfl (fun _=>rfl) (by omega) (by omega) (by omega))<|Lv (Bd (tkrC (if c=1 then(some (⟨b,o,none⟩:Addr)) else((some (⟨b,o,none⟩:Addr))).map (·.add (1*1))) 0 (c-1) false))<|Le XA fun b12 _=>Lv Av<|Nl<|Ps<|Sq<|Sq<|Rg<|Lv Mv<|Lv (Val.indexAddrN (i:=0) rfl rfl Tryz.underlying23 Tryz.sizeOf9 (by omega))<|Lv (V.Val.loadH rfl Tryz.isAgg9 (fun w hw=>hW.cell (hw.sat.pick (ss:=[W]) (by repeat(first|exact .nil|apply Pick.cons|exact .here|apply Ext.there)))))<|Lv ES<|LW.re 16 (.bool false) rfl (by rfl)<|Nl<|Ps<|Cf<|Sk<|Ps<|Sq<|Dr ([W])<|Rv 0 rfl Mv<|Rv 2 rfl Mv<|Rv 3 rfl (Val.indexAddrN (i:=0) rfl rfl Tryz.underlying23 Tryz.sizeOf9 (by omega))<|Rv 4 rfl (V.Val.loadH rfl Tryz.isAgg9 (fun w hw=>hW.cell (hw.sat.pick (ss:=[W]) (by repeat(first|exact .nil|apply Pick.cons|exact .here|apply Ext.there)))))<|Re 1 rfl (CM [] fun w hw hs0=>sayings_g sb w) fun z hz=>Re 5 rfl (Eff.ofVal (Val.lookup (z:= .nilFunc) rfl rfl Tryz.underlying64 Tryz.underlying9 (by exact Tryz.zeroValue62) (by repeat(first|exact .here|exact .inner .here|exact .inner (.inner .here)|refine .there ?_)))) fun _ _=>RW.re 26 (.tuple #[.func (.func 59) #[] #[.pointer (some ⟨z.x1,0,none⟩)],.bool true]) rfl (by rw[show V.mget z.E ⟨#[115,104,101,108,102]⟩=some (.func (.func 59) #[] #[.pointer (some ⟨z.x1,0,none⟩)]) from hz.2.2.1];rfl)<|Rv 6 rfl Mv<|Rv 7 rfl Ex<|Rv 8 rfl Ex<|Rv 9 rfl Av<|Rv 10 rfl Av<|Rd<|Ps<|Sq<|Sq<|Rg<|Lv Mv<|Lv Nt<|Lv Mv<|Lv Mv<|Lv Nz<|Lv (Fa 0 33)<|Lv (Ld (v:= .pointer (some ⟨wb,0,none⟩)))<|Lv EP<|Lv Pf<|Nl<|Ps<|Cf<|Sk<|Ps<|Sq<|Rg<|Lv Mv<|Lv Mv<|Le (Eff.callFV (f:=59) (caps:=[.pointer (some ⟨z.x1,0,none⟩)]) rfl rfl Tryz.call59 (fun w hw=>plain1_g _ z.x1 _ w (hw.sat.pick (ss:=[[(z.x1,.cells [.func (.func 34) #[.pointer (some ⟨sb,0,none⟩)] #[]].toArray 51 (0,0))]]) (by repeat(first|exact .nil|apply Pick.cons|exact .here|apply Ext.there))))) ?_
 intro _ _
 refine Lv Av<|Nl<|Ps<|Sq<|Sq<|Rg<|Lv Mv<|Le (CV fun w hw=>whole_g b12 _ 0 _ false w (hw.sat.pick (by repeat(first|exact .nil|apply Pick.cons|exact .here|apply Ext.there)))) fun _ _=>Lv Nt<|LW.re 43 (.bool false) rfl (by rfl)<|Nl<|Ps<|Cf<|Sk<|Ps<|Sq<|Rg<|Lv Mv<|Le (Eff.callBV (f:=34) (pre:=[.pointer (some ⟨sb,0,none⟩)]) (caps:=[]) rfl rfl Tryz.call34 (fun w hw=>shelf1_g sb wb S [97] [49] (fun w hs=>aw_shelf wb S hA w hs) (by decide) (by decide) w (hw.sat.pick (ss:=[[(sb,.cells [.pointer (some ⟨wb,0,none⟩)].toArray 35 (0,0))],S]) (by repeat(first|exact .nil|apply Pick.cons|exact .here|apply Ext.there))))) fun _ _=>Lv Av<|Nl<|Ps<|Rt<|Rt1 ?_
 intro w' hw;exact⟨(),trivial,rfl,hw.pick (by repeat(first|exact .nil|apply Pick.cons|exact .here|apply Ext.there))⟩
theorem line_epochs (sb wb:Nat)(S W:V.Seg)(gp:Option Addr)(n c:Nat)(hW:WsAt W gp ([101,112,111,99,104,115]::[]))(hn:n=1)(hc:n≤c)(hA:Aw 7 wb S)(w:World)(hs:Sat [[(sb,.cells [.pointer (some ⟨wb,0,none⟩)].toArray 35 (0,0))],W,S] w):Calls Tryz.prog 14 [.pointer (some ⟨sb,0,none⟩),.slice gp n c].toArray w fun e w'=>∃_u:Unit,True∧e= .returned (str (epochF 1 0 7 0))∧Hp ⟨w,V.ids ([[(sb,.cells [.pointer (some ⟨wb,0,none⟩)].toArray 35 (0,0))],W,S])⟩ ([[(sb,.cells [.pointer (some ⟨wb,0,none⟩)].toArray 35 (0,0))],W,S]) w':=by
 subst hn
 obtain⟨b,o,rfl⟩:=hW.hd (hs.pick (ss:=[W]) (by repeat(first|exact .nil|apply Pick.cons|exact .here|apply Ext.there)))
 have hW2:=hW.tl (c:=c) (by simpa using hc)
 refine V.calls [[(sb,.cells [.pointer (some ⟨wb,0,none⟩)].toArray 35 (0,0))],W,S] Tryz.func14 rfl Tryz.ntmps14 (Nat.le_of_ble_eq_true rfl) hs<|Sq<|Rg<|Lv Av<|Nl<|Ps<|Sq<|Rg<|Lv Mv<|Lv (V.Val.sliceG 1 1 c rfl Tryz.underlying23 Tryz.sizeOf9 ⟨_,rfl⟩ rfl rfl (fun _=>rfl) (by omega) (by omega) (by omega))<|Lv (Bd (tkrC (if c=1 then(some (⟨b,o,none⟩:Addr)) else((some (⟨b,o,none⟩:Addr))).map (·.add (1*1))) 0 (c-1) false))<|Le XA fun b12 _=>Lv Av<|Nl<|Ps<|Sq<|Sq<|Rg<|Lv Mv<|Lv (Val.indexAddrN (i:=0) rfl rfl Tryz.underlying23 Tryz.sizeOf9 (by omega))<|Lv (V.Val.loadH rfl Tryz.isAgg9 (fun w hw=>hW.cell (hw.sat.pick (ss:=[W]) (by repeat(first|exact .nil|apply Pick.cons|exact .here|apply Ext.there)))))<|Lv ES<|LW.re 16 (.bool false) rfl (by rfl)<|Nl<|Ps<|Cf<|Sk<|Ps<|Sq<|Dr ([W])<|Rv 0 rfl Mv<|Rv 2 rfl Mv<|Rv 3 rfl (Val.indexAddrN (i:=0) rfl rfl Tryz.underlying23 Tryz.sizeOf9 (by omega))<|Rv 4 rfl (V.Val.loadH rfl Tryz.isAgg9 (fun w hw=>hW.cell (hw.sat.pick (ss:=[W]) (by repeat(first|exact .nil|apply Pick.cons|exact .here|apply Ext.there)))))<|Re 1 rfl (CM [] fun w hw hs0=>sayings_g sb w) fun z hz=>Re 5 rfl (Eff.ofVal (Val.lookup (z:= .nilFunc) rfl rfl Tryz.underlying64 Tryz.underlying9 (by exact Tryz.zeroValue62) (by repeat(first|exact .here|exact .inner .here|exact .inner (.inner .here)|refine .there ?_)))) fun _ _=>RW.re 26 (.tuple #[.func (.func 59) #[] #[.pointer (some ⟨z.x2,0,none⟩)],.bool true]) rfl (by rw[show V.mget z.E ⟨#[101,112,111,99,104,115]⟩=some (.func (.func 59) #[] #[.pointer (some ⟨z.x2,0,none⟩)]) from hz.2.2.2];rfl)<|Rv 6 rfl Mv<|Rv 7 rfl Ex<|Rv 8 rfl Ex<|Rv 9 rfl Av<|Rv 10 rfl Av<|Rd<|Ps<|Sq<|Sq<|Rg<|Lv Mv<|Lv Nt<|Lv Mv<|Lv Mv<|Lv Nz<|Lv (Fa 0 33)<|Lv (Ld (v:= .pointer (some ⟨wb,0,none⟩)))<|Lv EP<|Lv Pf<|Nl<|Ps<|Cf<|Sk<|Ps<|Sq<|Rg<|Lv Mv<|Lv Mv<|Le (Eff.callFV (f:=59) (caps:=[.pointer (some ⟨z.x2,0,none⟩)]) rfl rfl Tryz.call59 (fun w hw=>plain1_g _ z.x2 _ w (hw.sat.pick (ss:=[[(z.x2,.cells [.func (.func 35) #[.pointer (some ⟨sb,0,none⟩)] #[]].toArray 51 (0,0))]]) (by repeat(first|exact .nil|apply Pick.cons|exact .here|apply Ext.there))))) ?_
 intro _ _
 refine Lv Av<|Nl<|Ps<|Sq<|Sq<|Rg<|Lv Mv<|Le (CV fun w hw=>whole_g b12 _ 0 _ false w (hw.sat.pick (by repeat(first|exact .nil|apply Pick.cons|exact .here|apply Ext.there)))) fun _ _=>Lv Nt<|LW.re 43 (.bool false) rfl (by rfl)<|Nl<|Ps<|Cf<|Sk<|Ps<|Sq<|Rg<|Lv Mv<|Le (Eff.callBV (f:=35) (pre:=[.pointer (some ⟨sb,0,none⟩)]) (caps:=[]) rfl rfl Tryz.call35 (fun w hw=>epochs_g sb wb S 1 0 7 0 (by decide) (fun w hs=>aw_now wb S hA w hs) (fun w hs=>aw_dur wb S hA w hs) (fun w hs=>aw_steps wb S hA w hs) (fun w hs=>aw_sto wb S hA w hs) (by decide) w (hw.sat.pick (ss:=[[(sb,.cells [.pointer (some ⟨wb,0,none⟩)].toArray 35 (0,0))],S]) (by repeat(first|exact .nil|apply Pick.cons|exact .here|apply Ext.there))))) fun _ _=>Lv Av<|Nl<|Ps<|Rt<|Rt1 ?_
 intro w' hw;exact⟨(),trivial,rfl,hw.pick (by repeat(first|exact .nil|apply Pick.cons|exact .here|apply Ext.there))⟩
theorem places35:∀w,((Array.mapM (fun(f:Field)=>do pure (f.offset,← sizeOf f.type)) (Tryz.prog.fieldsOf 35):Sem (Array (Nat×Nat)))).run Tryz.prog w= .ok [(0,1)].toArray w:=by
 intro w;kernel_rfl
instance:Plc Tryz.prog 35 (fOf Tryz.underlying35) (lOf (P:=Tryz.prog) places35):=⟨places35,Tryz.underlying35⟩
instance:Cal Tryz.prog 9:=⟨Tryz.call9⟩
def skipB (x:List UInt8):Bool:=match wordsB [] x with
 |[]=>true
 |w::_=>head1 w 35
def oneO (x:List UInt8):List UInt8:=if x=[] then[] else x++[10]
def outs (out:Nat→List UInt8):Nat→List UInt8
 |0=>[]
 |k+1=>outs out k++oneO (out k)
theorem linesB_len:∀(l cur x:List UInt8),x∈linesB cur l→x.length≤cur.length+l.length
 |[],cur,x,h=>by simp only[linesB,List.mem_singleton] at h;subst h;simp
 |b::r,cur,x,h=>by
  rw[linesB] at h
  split at h
  ·rcases List.mem_cons.1 h with h|h
   ·subst h;simp
   ·have:=linesB_len r [] x h;simp at this⊢;omega
  ·have:=linesB_len r (cur++[b]) x h;simp at this⊢;omega
theorem words_own {e:Nat}(ws:List (List UInt8))(o:V.OwnO)(h:ownOk 1 ws.length (ws.flatMap lineV) o):∃p c,ownV ws.length o= .slice p ws.length c∧ws.length≤c∧WsAt (ownG e (ws.flatMap lineV) o) p ws:=by
 rcases o with _|⟨gb,rest,cap⟩
 ·have h0:ws=[]:=List.length_eq_zero_iff.1 h.2
  subst h0
  exact⟨none,0,rfl,Nat.le_refl _,fun _ _=> .inl rfl⟩
 ·refine⟨some ⟨gb,0,none⟩,cap,rfl,?_,fun w hs=>V.slAt_flat (V.Hp.start hs) (fun _=>rfl) rfl .here⟩
  have h1:(ws.flatMap lineV).length+rest.length=cap*1:=h.2
  rw[V.flatMap_len (k:=1) (fun _=>rfl)] at h1;omega
theorem apartL {B:V.Base}{w:World}{A sg sg' r:V.Sg}(hw:Hp B sg w)(hp:Pick (A++sg') sg r):∀k∈V.ids A,k<w.heap.size∧k∉V.ids sg'∧(B.w.heap.size≤k∨k∈B.F):=fun k hk=>by
 have h9:=hw.pick hp
 obtain⟨p,hp1,rfl⟩:=List.mem_map.1 hk
 have hm:p∈(A++sg').flatten:=by rw[List.flatten_append];exact List.mem_append_left _ hp1
 refine⟨V.lt_of_some (h9.own p hm),fun hin=>?_,h9.lo p hm⟩
 have h8:=h9.nd
 rw[List.flatten_append,List.map_append,List.nodup_append] at h8
 exact h8.2.2 _ (List.mem_map.2 ⟨p,hp1,rfl⟩) _ hin rfl
structure RunG where
 out:List UInt8
 u:Bool
 o:V.OwnO
 S:V.Seg
theorem run_g (l:List UInt8)(hl:l.length≤65536)(out:Nat→List UInt8)(hout:∀k,(out k).length≤1000)(hn:(linesB [] l).length≤500)(Pk:Nat→Nat→V.Seg→Prop)(hpl:∀k sb S,Pk k sb S→∀p∈S,V.plO p.2=true)(h0:∀sb,Pk 0 sb [(sb,.cells [.pointer none].toArray 35 (0,0))])(hskip:∀k x,(linesB [] l)[k]? =some x→skipB x=true→out k=[]∧∀sb S,Pk k sb S→Pk (k+1) sb S)(hline:∀k x,(linesB [] l)[k]? =some x→skipB x=false→out k≠[]∧∀sb S (W:V.Seg) gp c,Pk k sb S→WsAt W gp (wordsB [] x)→(wordsB [] x).length≤c→∀w,Sat [S,W] w→Calls Tryz.prog 14 [.pointer (some ⟨sb,0,none⟩),.slice gp (wordsB [] x).length c].toArray w fun e w'=>∃S1,Pk (k+1) sb S1∧e= .returned (str (out k))∧Hp ⟨w,V.ids [S,W]⟩ [S1] w')(w:World):Calls Tryz.prog 7 [str l].toArray w fun e w'=>e= .returned (.tuple #[str (outs out (linesB [] l).length),.int .i64 0])∧Below w.heap.size w w':=by
 have houts:∀k,(outs out k).length≤1001*k:=fun k=>by
  induction k with
  |zero=>simp[outs]
  |succ k ih=>have:=hout k;simp only[outs,List.length_append,oneO];split<;>simp<;>omega
 refine V.callsM [] Tryz.func7 rfl Tryz.ntmps7 (Nat.le_of_ble_eq_true rfl) (V.sat_nil _)<|Sq<|Rg<|Lv Av<|Lv Av<|Nl<|Ps<|Sq<|Sq<|Rg<|Lv Mv<|Lv LnS<|Lv Cm<|LW.re 10 (.bool false) rfl (by congr 1;simp[str];omega)<|Nl<|Ps<|Cf<|Sk<|Ps<|Sq<|Rg<|Lv (Bd [_])<|Le XA fun b12 _=>Le V.AS fun b4 _=>LeN StS fun _ _=>Nl<|Ps<|Sq<|Rg<|Le AA fun b5 _=>Nl<|Ps<|Sq<|Sq<|Rg<|Lv Mv<|Le (CM [] fun w hw hs=>split_g l w) fun z _=>Nl<|Ps<|Bk<|V.CW.addOwn 5<|V.CW.toI ?_
 refine V.CI.rangeFuncW (α:=List UInt8) (γ:=RunG) lineV (fun pre x=>∃r,linesB [] l=pre++x::r) (fun xs=>xs=linesB [] l) (linesB [] l).length [z.1,z.2.1,z.2.2] (fun pre g=>g.out=outs out pre.length∧sbOk g.o g.out∧Pk pre.length b12 g.S) (fun g:RunG=>[[(b4,.cells [.pointer (some ⟨b12,0,none⟩)].toArray 32 (0,0))],g.S]++sbX b5 g.u g.o g.out) (fun x=>[(4,.pointer (some ⟨b4,0,none⟩)),(5,.pointer (some ⟨b5,0,none⟩)),(6,str x)]) ⟨[],false,none,[(b12,.cells [.pointer none].toArray 35 (0,0))]⟩ [] rfl Tryz.call23 (fun _=>rfl) rfl (fun w hw=>split_seq z.1 z.2.1 z.2.2 l (by omega) w (hw.sat.pick (by repeat(first|exact .nil|apply Pick.cons|exact .here|apply Ext.there)))) (fun w hw=>apartL (A:=[[(z.1,.cells [str [10]].toArray 9 (0,0))],[(z.2.1,.cells [str l].toArray 9 (0,0))],[(z.2.2,.cells [.int .i64 0].toArray 3 (0,0))]]) hw (by repeat(first|exact .nil|apply Pick.cons|exact .here|apply Ext.there))) (by repeat(first|exact .nil|apply Pick.cons|exact .here|apply Ext.there)) (fun pre g h=>V.plOnly_cons V.plSeg_one (V.plOnly_cons (hpl _ _ _ h.2.2) (V.plOnly_cons V.plSeg_one (V.plOnly_cons V.plSeg_own V.plOnly_nil)))) ⟨rfl,sbOk_nil,h0 b12⟩ ?_ ?_ ?_
 ·intro lp pre x g W hP hφ hW
  refine CI.region<|LI.v rfl rfl (Val.assign rfl)<|LI.nil ?_
  refine V.PI.assignedG (by repeat(first|exact trivial|refine⟨rfl,?_⟩)) (V.pick_self _)
 ·rintro lp pre x ⟨ou,u,bo,S⟩ W hx ⟨hg1,hg2,hg3⟩ hW hlen
  simp only at hg1 hg2 hg3 hW⊢
  subst hg1
  obtain⟨rr,hx⟩:=hx
  have hk:(linesB [] l)[pre.length]? =some x:=by rw[hx];simp
  have hxl:=linesB_len l [] x (List.mem_of_getElem? hk)
  simp only[List.length_nil,Nat.zero_add] at hxl
  have hsk:=hskip pre.length x hk
  have hli:=hline pre.length x hk
  have hol:=houts pre.length
  have hoo:=hout pre.length
  obtain⟨ws,hws⟩:∃ws,wordsB [] x=ws:=⟨_,rfl⟩
  unfold skipB at hsk hli
  have hel:(pre++[x]).length=pre.length+1:=by simp
  refine CI.block<|CI.seq<|CI.region<|LI.v rfl rfl (Val.move rfl)<|LI.e rfl rfl (Eff.callM ([]) .nil rfl Tryz.call10 (fun w hw hs=>fields_g x (by omega) w)) fun o8 ho8=>?_
  rw[hws] at ho8 hsk hli⊢
  obtain⟨p8,c8,hv8,hc8,hW8⟩:=words_own (e:=9) ws o8 ho8
  rw[hv8]
  refine LI.v rfl rfl (Val.assign rfl)<|LI.nil ?_
  first|refine PI.seq ?_|refine PI.seqW ?_
  refine CI.seq<|CI.seq<|CI.region<|LI.v rfl rfl (Val.move rfl)<|LI.v rfl rfl (Val.lenSl rfl Tryz.underlying23)<|LI.v rfl rfl (Val.cmp rfl rfl rfl)<|LI.v rfl rfl (Val.move rfl) ?_
  refine LI.split (d:=21) rfl (fun h21=>?_) (fun h21=>?_)
  ·replace h21:=bT h21
   have h9:(ws.length:Int)=0:=by simpa using h21
   have h0w:ws=[]:=List.length_eq_zero_iff.1 (by omega)
   subst h0w
   refine LI.p rfl rfl<|LI.p rfl rfl<|LI.p rfl rfl<|LI.p rfl rfl<|LI.v rfl rfl (Val.pick_t rfl rfl)<|LI.nil ?_
   first|refine PI.seq ?_|refine PI.seqW ?_
   refine CI.cond_t rfl<|CI.exit<|PI.then_exit<|PI.in_here ?_
   refine V.PI.rpm ⟨outs out pre.length,u,bo,S⟩ ⟨by rw[hel,outs,(hsk rfl).1];simp[oneO],hg2,by rw[hel];exact(hsk rfl).2 _ _ hg3⟩ (by repeat(first|exact .nil|apply Pick.cons|exact .here|apply Ext.there))
  ·replace h21:=bF h21
   obtain⟨w0,wr,rfl⟩:∃w0 wr,ws=w0::wr:=by
    cases ws with
    |nil=>simp at h21
    |cons a b=>exact⟨a,b,rfl⟩
   obtain⟨b8,o8b,rfl⟩:∃b o,p8=some ⟨b,o,none⟩:=by
    rcases o8 with _|⟨g8,r8,k8⟩
    ·exact absurd ho8.2 (by simp)
    ·cases hv8;exact⟨_,_,rfl⟩
   refine LI.v rfl rfl (Val.move rfl)<|LI.v rfl rfl (Val.indexAddrN (i:=0) rfl rfl Tryz.underlying23 Tryz.sizeOf9 (by simp))<|LI.v rfl rfl (V.Val.loadH rfl Tryz.isAgg9 (fun w hw=>hW8.cell (hw.sat.pick (ss:=[ownG 9 ((w0::wr).flatMap lineV) o8]) (by repeat(first|exact .nil|apply Pick.cons|exact .here|apply Ext.there)))))<|LI.e rfl rfl (Eff.callV rfl Tryz.call12 (fun w hw=>hpre_g w0 35 w)) fun _ _=>LI.v rfl rfl (Val.pick_f rfl rfl)<|LI.nil ?_
   first|refine PI.seq ?_|refine PI.seqW ?_
   refine CI.cond rfl (fun h26=>?_) (fun h26=>?_)
   ·replace h26:=bT h26
    have h26:head1 w0 35=true:=h26
    refine CI.exit<|PI.then_exit<|PI.in_here ?_
    refine V.PI.rpm ⟨outs out pre.length,u,bo,S⟩ ⟨by rw[hel,outs,(hsk h26).1];simp[oneO],hg2,by rw[hel];exact(hsk h26).2 _ _ hg3⟩ (by repeat(first|exact .nil|apply Pick.cons|exact .here|apply Ext.there))
   ·replace h26:=bF h26
    have h26:head1 w0 35=false:=h26
    refine CI.skip ?_
    first|refine PI.seq ?_|refine PI.seqW ?_
    refine CI.seq<|CI.region<|LI.v rfl rfl (Ld (v:= .pointer (some ⟨b12,0,none⟩)))<|LI.v rfl rfl (Val.move rfl)<|LI.e rfl rfl (Eff.callM ([S,ownG 9 ((w0::wr).flatMap lineV) o8]) (by repeat(first|exact .nil|apply Pick.cons|exact .here|apply Ext.there)) rfl Tryz.call14 (fun w hw hs=>(hli h26).2 b12 S _ (some ⟨b8,o8b,none⟩) c8 hg3 hW8 hc8 w hs)) fun S1 hS1=>LI.e rfl rfl (Eff.callM ((sbX b5 u bo (outs out pre.length))) (by repeat(first|exact .nil|apply Pick.cons|exact .here|apply Ext.there)) rfl Tryz.call13 (fun w hw hs=>ws_c b5 u bo _ hg2 (by omega) (out pre.length) (by omega) w hs)) fun o9 ho9=>LI.nil ?_
    first|refine PI.seq ?_|refine PI.seqW ?_
    refine CI.region<|LI.e rfl rfl (Eff.callM ((sbX b5 true o9 (outs out pre.length++out pre.length))) (by repeat(first|exact .nil|apply Pick.cons|exact .here|apply Ext.there)) rfl Tryz.call15 (fun w hw hs=>wb_c b5 true o9 _ (ho9 (hli h26).1) (by simp;omega) 10 w hs)) fun o10 ho10=>LI.nil<|PI.in_normal ?_
    refine V.PI.rpm ⟨(outs out pre.length++out pre.length)++[10],true,o10,S1⟩ ⟨by rw[hel,outs,oneO,if_neg (hli h26).1];simp,ho10,by rw[hel];exact hS1⟩ (by repeat(first|exact .nil|apply Pick.cons|exact .here|apply Ext.there))
 ·rintro D xs g hS ⟨hg1,hg2,hg3⟩
  rw[hS] at hg1
  have hol:=houts (linesB [] l).length
  refine PI.in_normal ?_
  first|refine PI.seq ?_|refine PI.seqW ?_
  refine CI.seq<|CI.region<|LI.e rfl rfl (Eff.callM ((sbX b5 g.u g.o g.out)) (by repeat(first|exact .nil|apply Pick.cons|exact .here|apply Ext.there)) rfl Tryz.call16 (fun w hw hs=>st_c b5 g.u g.o g.out hg2 (by rw[hg1];omega) w hs)) fun _ _=>LI.v rfl rfl (Val.assign rfl)<|LI.v rfl rfl (Val.assign rfl)<|LI.nil ?_
  first|refine PI.seq ?_|refine PI.seqW ?_
  refine CI.ret<|V.PI.retM2s (Ds:=[D]) (sg':=[]) rfl rfl rfl (by repeat(first|exact .nil|apply Pick.cons|exact .here|apply Ext.there)) ?_
  intro w' sm hw;exact⟨by rw[hg1],hw.below⟩
instance:Cal Tryz.prog 7:=⟨Tryz.call7⟩
theorem od_pl (Lz:List LvO):∀p∈odM Lz,V.plO p.2=true:=fun p hp=>by
 obtain⟨q,_,hq⟩:=List.mem_flatMap.1 hp
 exact V.plSeg_own p hq
theorem tb_pl:∀(ms:List Nat) (Tz:Tbl),∀p∈tbM ms Tz,V.plO p.2=true
 |[],_,p,hp=>by simp[tbM] at hp
 |_::_,[],p,hp=>by simp[tbM] at hp
 |m::ms,q::Tz,p,hp=>by
  simp only[tbM,List.zipWith_cons_cons,List.mem_cons] at hp
  rcases hp with rfl|hp
  ·rfl
  ·exact tb_pl ms Tz p hp
theorem aw_pl {j wb:Nat}{S:V.Seg}(h:Aw j wb S):∀p∈S,V.plO p.2=true:=by
 obtain⟨W,x,s,xd,o,Z,zo,_,rfl⟩:=h
 refine V.plOnly_cons V.plSeg_one (V.plOnly_app (V.plOnly_app ?_ (V.plOnly_app ?_ ?_)) ?_)
 ·repeat(first|exact V.plOnly_nil|refine V.plOnly_cons V.plSeg_own ?_)
 ·refine V.plOnly_cons V.plSeg_one (V.plOnly_cons V.plSeg_one ?_)
  repeat(first|exact V.plOnly_nil|refine V.plOnly_cons V.plSeg_one ?_|refine V.plOnly_cons V.plSeg_own ?_|refine V.plOnly_cons (od_pl _) ?_|refine V.plOnly_cons (tb_pl _ _) ?_|refine V.plOnly_app ?_ ?_)
 ·repeat(first|exact V.plOnly_nil|refine V.plOnly_cons V.plSeg_one ?_)
 ·repeat(first|exact V.plOnly_nil|refine V.plOnly_cons V.plSeg_own ?_)
theorem sat_perm {a b:V.Sg}{w:World}(h:Sat a w)(hp:a.flatten.Perm b.flatten):Sat b w:=⟨fun p hm=>h.own p (hp.symm.mem_iff.1 hm),(hp.map _).nodup_iff.1 h.nd⟩
theorem hp_idp {w:World}{a b sg:V.Sg}{w':World}(h:Hp ⟨w,V.ids a⟩ sg w')(hp:a.flatten.Perm b.flatten):Hp ⟨w,V.ids b⟩ sg w':=by
 have hm:∀k,k∈V.ids a↔k∈V.ids b:=fun k=>(hp.map Prod.fst).mem_iff
 exact⟨h.os,h.tape,h.output,h.size,fun k hk hf=>h.old k hk (fun h1=>hf ((hm k).1 h1)),h.own,fun p hp1=>(h.lo p hp1).imp id (hm p.1).1,h.nd⟩
def awL:List UInt8:=[110,101,119,32,49,48,32,49,32,48,10,112,117,116,32,48,32,97,32,49,10,115,116,101,112,32,48,32,57,10,115,104,101,108,102,10,101,112,111,99,104,115]
theorem awL_lines:linesB [] awL=[[110,101,119,32,49,48,32,49,32,48],[112,117,116,32,48,32,97,32,49],[115,116,101,112,32,48,32,57],[115,104,101,108,102],[101,112,111,99,104,115]]:=by decide
def PkA (k sb:Nat)(S:V.Seg):Prop:=if k=0 then S=[(sb,.cells [.pointer none].toArray 35 (0,0))] else ∃wb S1,Aw (if k=1 then 0 else if k=2 then 1 else 7) wb S1∧S=[(sb,.cells [.pointer (some ⟨wb,0,none⟩)].toArray 35 (0,0))]++S1
def outA:Nat→List UInt8
 |0=>[111,107]
 |1=>smallF 0
 |2=>smallF 6
 |3=>Go.Lib.join [pairL [97] [49],[47]] [32]
 |4=>epochF 1 0 7 0
 |_=>[]
theorem outA_all:outs outA 5=[111,107,10,48,10,54,10,97,61,49,32,47,10,49,32,48,32,55,32,48,10]:=by decide+kernel
theorem outA_len:∀k,(outA k).length≤1000
 |0=>by decide
 |1=>by decide+kernel
 |2=>by decide+kernel
 |3=>by decide+kernel
 |4=>by decide+kernel
 |_+5=>by simp[outA]
theorem perm3 (a b c:V.Seg):([a++b,c]:V.Sg).flatten.Perm ([a,c,b]:V.Sg).flatten:=by
 simp only[List.flatten_cons,List.flatten_nil,List.append_nil,List.append_assoc]
 exact List.Perm.append_left _ List.perm_append_comm
theorem aw_line (k sb:Nat)(x:List UInt8)(hk:(linesB [] awL)[k]? =some x)(S W:V.Seg)(gp:Option Addr)(c:Nat)(hS:PkA k sb S)(hW:WsAt W gp (wordsB [] x))(hc:(wordsB [] x).length≤c)(w:World)(hs:Sat [S,W] w):Calls Tryz.prog 14 [.pointer (some ⟨sb,0,none⟩),.slice gp (wordsB [] x).length c].toArray w fun e w'=>∃S1,PkA (k+1) sb S1∧e= .returned (str (outA k))∧Hp ⟨w,V.ids [S,W]⟩ [S1] w':=by
 rw[awL_lines] at hk
 rcases k with _|_|_|_|_|k
 ·obtain rfl:[110,101,119,32,49,48,32,49,32,48]=x:=by simpa using hk
  have e:wordsB [] [110,101,119,32,49,48,32,49,32,48]=[[110,101,119],[49,48],[49],[48]]:=by decide
  rw[e] at hW hc⊢
  have e0:S=[(sb,.cells [.pointer none].toArray 35 (0,0))]:=hS
  subst e0
  exact(line_new sb W gp _ c hW rfl hc w hs).mono fun e w' ⟨y,h1,h2,h3⟩=>⟨[(sb,.cells [.pointer (some ⟨y.1,0,none⟩)].toArray 35 (0,0))]++y.2,⟨y.1,y.2,h1,rfl⟩,h2,(h3.pick (ss:=[[(sb,.cells [.pointer (some ⟨y.1,0,none⟩)].toArray 35 (0,0))],y.2]) (by repeat(first|exact .nil|apply Pick.cons|exact .here|apply Ext.there))).perm (by simp)⟩
 ·obtain rfl:[112,117,116,32,48,32,97,32,49]=x:=by simpa using hk
  have e:wordsB [] [112,117,116,32,48,32,97,32,49]=[[112,117,116],[48],[97],[49]]:=by decide
  rw[e] at hW hc⊢
  obtain⟨wb,S0,hA,rfl⟩:=hS
  exact(line_put sb wb S0 W gp _ c hW rfl hc hA w (sat_perm hs (perm3 _ _ _))).mono fun e w' ⟨S1,h1,h2,h3⟩=>⟨[(sb,.cells [.pointer (some ⟨wb,0,none⟩)].toArray 35 (0,0))]++S1,⟨wb,S1,h1,rfl⟩,h2,hp_idp ((h3.pick (ss:=[[(sb,.cells [.pointer (some ⟨wb,0,none⟩)].toArray 35 (0,0))],S1]) (by repeat(first|exact .nil|apply Pick.cons|exact .here|apply Ext.there))).perm (by simp)) (perm3 _ _ _).symm⟩
 ·obtain rfl:[115,116,101,112,32,48,32,57]=x:=by simpa using hk
  have e:wordsB [] [115,116,101,112,32,48,32,57]=[[115,116,101,112],[48],[57]]:=by decide
  rw[e] at hW hc⊢
  obtain⟨wb,S0,hA,rfl⟩:=hS
  exact(line_step sb wb S0 W gp _ c hW rfl hc hA w (sat_perm hs (perm3 _ _ _))).mono fun e w' ⟨S1,h1,h2,h3⟩=>⟨[(sb,.cells [.pointer (some ⟨wb,0,none⟩)].toArray 35 (0,0))]++S1,⟨wb,S1,h1,rfl⟩,h2,hp_idp ((h3.pick (ss:=[[(sb,.cells [.pointer (some ⟨wb,0,none⟩)].toArray 35 (0,0))],S1]) (by repeat(first|exact .nil|apply Pick.cons|exact .here|apply Ext.there))).perm (by simp)) (perm3 _ _ _).symm⟩
 ·obtain rfl:[115,104,101,108,102]=x:=by simpa using hk
  have e:wordsB [] [115,104,101,108,102]=[[115,104,101,108,102]]:=by decide
  rw[e] at hW hc⊢
  obtain⟨wb,S0,hA,rfl⟩:=hS
  exact(line_shelf sb wb S0 W gp _ c hW rfl hc hA w (sat_perm hs (perm3 _ _ _))).mono fun e w' ⟨_,_,h2,h3⟩=>⟨[(sb,.cells [.pointer (some ⟨wb,0,none⟩)].toArray 35 (0,0))]++S0,⟨wb,S0,hA,rfl⟩,h2,hp_idp ((h3.pick (ss:=[[(sb,.cells [.pointer (some ⟨wb,0,none⟩)].toArray 35 (0,0))],S0]) (by repeat(first|exact .nil|apply Pick.cons|exact .here|apply Ext.there))).perm (by simp)) (perm3 _ _ _).symm⟩
 ·obtain rfl:[101,112,111,99,104,115]=x:=by simpa using hk
  have e:wordsB [] [101,112,111,99,104,115]=[[101,112,111,99,104,115]]:=by decide
  rw[e] at hW hc⊢
  obtain⟨wb,S0,hA,rfl⟩:=hS
  exact(line_epochs sb wb S0 W gp _ c hW rfl hc hA w (sat_perm hs (perm3 _ _ _))).mono fun e w' ⟨_,_,h2,h3⟩=>⟨[(sb,.cells [.pointer (some ⟨wb,0,none⟩)].toArray 35 (0,0))]++S0,⟨wb,S0,hA,rfl⟩,h2,hp_idp ((h3.pick (ss:=[[(sb,.cells [.pointer (some ⟨wb,0,none⟩)].toArray 35 (0,0))],S0]) (by repeat(first|exact .nil|apply Pick.cons|exact .here|apply Ext.there))).perm (by simp)) (perm3 _ _ _).symm⟩
 ·simp at hk
theorem skip_aw:∀(k:Nat) (x:List UInt8),(linesB [] awL)[k]? =some x→skipB x=false:=by
 intro k x hk
 have h:∀y∈linesB [] awL,skipB y=false:=by rw[awL_lines];decide
 exact h x (List.mem_of_getElem? hk)
theorem pkA_pl (k sb:Nat)(S:V.Seg)(h:PkA k sb S):∀p∈S,V.plO p.2=true:=by
 unfold PkA at h
 split at h
 ·subst h;exact V.plSeg_one
 ·obtain⟨wb,S1,h1,rfl⟩:=h
  intro p hp
  rcases List.mem_append.1 hp with hp|hp
  ·exact V.plSeg_one p hp
  ·exact aw_pl h1 p hp
theorem outA_ne:∀k,k<5→outA k≠[]:=by
 intro k hk
 rcases k with _|_|_|_|_|k
 ·decide
 ·decide+kernel
 ·decide+kernel
 ·decide+kernel
 ·decide+kernel
 ·omega
theorem run_aw (w:World):Calls Tryz.prog 7 [str awL].toArray w fun e w'=>e= .returned (.tuple #[str [111,107,10,48,10,54,10,97,61,49,32,47,10,49,32,48,32,55,32,48,10],.int .i64 0])∧Below w.heap.size w w':=by
 have h5:(linesB [] awL).length=5:=by rw[awL_lines];rfl
 have h:=run_g awL (by decide) outA outA_len (by rw[h5];decide) PkA pkA_pl (fun sb=>rfl) (fun k x hk h=>by rw[skip_aw k x hk] at h;cases h)
  (fun k x hk _=>⟨outA_ne k (by have:=(List.getElem?_eq_some_iff.1 hk).1;omega),fun sb S W gp c hS hW hc w hs=>aw_line k sb x hk S W gp c hS hW hc w hs⟩) w
 rwa [h5,outA_all] at h
theorem awake_g (w:World):Calls Tryz.prog 5 [].toArray w fun e w'=>e= .returned (.bool true)∧Below w.heap.size w w':=by
 refine V.calls [] Tryz.func5 rfl Tryz.ntmps5 (Nat.le_of_ble_eq_true rfl) (V.sat_nil _)<|Sq<|Rg<|Lv Av<|Nl<|Ps<|Sq<|Rg<|Le (CV fun w hw=>run_aw w) fun _ _=>Lv Mv<|Lv Ex<|Lv Ex<|Lv Av<|Lv Av<|Nl<|Ps<|Sq<|Rg<|Lv Mv<|Lv Cm<|LW.re 8 (.bool true) rfl (by rfl)<|Lv Mv<|Lv Mv<|Lv ES<|Lv Pt<|Lv Av<|Nl<|Ps<|Rt<|Rt1 ?_
 intro w' hw;exact⟨rfl,hw.below⟩
def errF (l:List UInt8):List UInt8:=if skipB l=true then[] else[101,114,114,111,114,10]
theorem run_one (l:List UInt8)(hl:l.length≤65536)(h10:∀k:Nat,l[k]? ≠some 10)(hn:(wordsB [] l).head?≠some [110,101,119])(w:World):Calls Tryz.prog 7 [str l].toArray w fun e w'=>e= .returned (.tuple #[str (errF l),.int .i64 0])∧Below w.heap.size w w':=by
 have hL:linesB [] l=[l]:=by rw[linesB_no l [] h10];rfl
 have hx:∀k x,(linesB [] l)[k]? =some x→x=l:=fun k x hk=>by rw[hL] at hk;have:=List.mem_of_getElem? hk;simpa using this
 have h:=run_g l hl (fun _=>if skipB l=true then[] else[101,114,114,111,114]) (fun k=>by split<;>simp) (by rw[hL];simp) (fun _ sb S=>S=[(sb,.cells [.pointer none].toArray 35 (0,0))]) (fun k sb S h=>by subst h;exact V.plSeg_one) (fun sb=>rfl)
  (fun k x hk h=>by
   obtain rfl:=hx k x hk
   exact⟨if_pos h,fun sb S h=>h⟩)
  (fun k x hk h=>by
   obtain rfl:=hx k x hk
   refine⟨by simp[h],fun sb S W gp c hS hW hc w hs=>?_⟩
   subst hS
   rw[if_neg (by simp[h])]
   obtain⟨w0,wr,hw⟩:∃w0 wr,wordsB [] x=w0::wr:=by
    cases hh:wordsB [] x with
    |nil=>unfold skipB at h;rw[hh] at h;cases h
    |cons a b=>exact⟨a,b,rfl⟩
   rw[hw] at hW hc⊢
   exact(line_err sb W gp _ c w0 wr hW rfl hc (fun e=>hn (by rw[hw,e];rfl)) w hs).mono fun e w' ⟨_,_,h2,h3⟩=>⟨_,rfl,h2,h3.pick (by repeat(first|exact .nil|apply Pick.cons|exact .here|apply Ext.there))⟩) w
 rw[hL] at h
 refine h.mono fun e w' ⟨h1,h2⟩=>⟨?_,h2⟩
 rw[h1]
 unfold errF
 cases h8:skipB l<;>simp[outs,oneO,h8]
theorem words_step {l A c:List UInt8}{AA:List (List UInt8)}{i:Nat}{b:UInt8}(hb:l[i]? =some b)(h:wordsB [] l=AA++wordsB c (l.drop i)):wordsB [] l=AA++(if b=32 then(if c=[] then wordsB [] (l.drop (i+1)) else c::wordsB [] (l.drop (i+1))) else wordsB (c++[b]) (l.drop (i+1))):=by
 obtain⟨hi,rfl⟩:=List.getElem?_eq_some_iff.1 hb
 rw[h,List.drop_eq_getElem_cons hi,wordsB]
theorem take1 {l:List UInt8}{i:Nat}{b:UInt8}(hb:l[i]? =some b):(l.drop i).take (i+1-i)=[b]:=by
 obtain⟨hi,rfl⟩:=List.getElem?_eq_some_iff.1 hb
 rw[List.drop_eq_getElem_cons hi,show i+1-i=1 by omega];rfl
theorem words_num:∀(l c:List UInt8),(wordsB c l).length≤l.length+1
 |[],c=>by rw[wordsB];split<;>simp
 |b::r,c=>by
  rw[wordsB]
  have h1:=words_num r []
  have h2:=words_num r (c++[b])
  split
  ·split
   ·simp only[List.length_cons];omega
   ·simp only[List.length_cons];omega
  ·simp only[List.length_cons];omega
theorem words_g (l:List UInt8)(hl:l.length≤100000)(w:World):Calls Tryz.prog 6 [str l].toArray w fun e w'=>∃o:V.OwnO,ownOk 1 (wordsB [] l).length ((wordsB [] l).flatMap lineV) o∧e= .returned (ownV (wordsB [] l).length o)∧Hp ⟨w,[]⟩ ([ownG 9 ((wordsB [] l).flatMap lineV) o]) w':=by
 have hwn:=words_num l []
 refine V.calls [] Tryz.func6 rfl Tryz.ntmps6 (Nat.le_of_ble_eq_true rfl) (V.sat_nil _)<|Sq<|Rg<|Lv Av<|Nl<|Ps<|Sq<|Rg<|Lv Av<|Nl<|Ps<|Sq<|Rg<|Lv Av<|Nl<|Ps<|Sq<|Sq<|Rg<|Lv Av<|Nl<|Ps<|Bk<|nilSeg<|loopA (γ:=List (List UInt8)×List UInt8×V.OwnO×Nat) (fun x=>[(0,str l),(3,ownV x.1.length x.2.2.1),(4,str x.2.1),(5,.int .i64 (x.2.2.2:Nat))]) (fun x=>[ownG 9 (x.1.flatMap lineV) x.2.2.1]) (fun x=>x.2.2.2≤l.length∧wordsB [] l=x.1++wordsB x.2.1 (l.drop x.2.2.2)∧ownOk 1 x.1.length (x.1.flatMap lineV) x.2.2.1∧x.2.1.length≤x.2.2.2) (fun x=>l.length-x.2.2.2) (([],[],none,0)) ⟨Nat.zero_le _,rfl,⟨rfl,rfl⟩,Nat.le_refl _⟩ fun x=>?_
 obtain⟨A,c,o,i⟩:=x
 rintro⟨hi,hw,ho,hci⟩
 simp only at hi hw ho hci⊢
 have hal:=congrArg List.length hw
 rw[List.length_append] at hal
 refine Sq<|Sq<|Rg<|Lv Mv<|Lv Mv<|Lv LnS<|Lv Cm<|Nl<|Ps ?_
 refine CW.cond rfl (fun h9=>?_) (fun h9=>?_)
 ·replace h9:=bT h9
  obtain⟨b,hb⟩:∃b,l[i]? =some b:=⟨l[i],by simp⟩
  have hws:=words_step (A:=[]) hb hw
  refine Sk<|Ps<|Sq<|Bk<|Sq<|Sq<|Rg<|Lv Mv<|Lv Mv<|Lv (V.Val.indexStr (l:=l) (i:=i) (u:=b) rfl rfl Tryz.underlying9 hb)<|Lv Cm<|Nl<|Ps ?_
  refine CW.cond rfl (fun h15=>?_) (fun h15=>?_)
  ·replace h15:=bT h15
   have hb32:¬b=32:=fun e=>absurd h15 (by rw[e];decide)
   rw[if_neg hb32] at hws
   refine Sq<|Rg<|Lv Mv<|Lv Mv<|Lv Mv<|Lv Mv<|Lv Ar<|Lv (V.Val.sliceStr (l:=l) i (i+1) rfl Tryz.underlying9 ⟨_,rfl⟩ ⟨_,rfl⟩ (by omega) (by omega))<|LW.re 21 (str [b]) rfl (by rw[take1 hb])<|Lv (Val.catStr rfl rfl (by first|omega|(simp only[List.length_append,List.length_cons,List.length_nil];omega)))<|Lv Av<|Nl<|Ps<|Xt<|Te<|Bh<|Ps<|Rg<|Lv Mv<|Lv Ar<|Lv Av<|Nl ?_
   exact roundA ((A,c++[b],o,i+1)) ⟨by simp only;omega,hws,ho,by simp only[List.length_append,List.length_cons,List.length_nil];omega⟩ (by simp only;omega)
  ·replace h15:=bF h15
   have hb32:b=32:=by
    have h9:(b.toNat:Int)=32:=by simpa using h15
    exact UInt8.toNat_inj.1 (by simp;omega)
   rw[if_pos hb32] at hws
   refine Sk<|Ps<|Sq<|Sq<|Rg<|Lv Mv<|Lv NS<|Nl<|Ps ?_
   refine CW.cond rfl (fun h24=>?_) (fun h24=>?_)
   ·replace h24:=bT h24
    have hc0:¬c=[]:=by simpa using h24
    rw[if_neg hc0] at hws
    refine Rg<|Lv Mv<|Lv Mv<|Le (Eff.buildSlice (rfl) [_] Tryz.underlying23 Tryz.sizeOf9 (by exact Tryz.zeroValue9) rfl rfl rfl rfl (by rfl)) fun b27 _=>Le (Eff.appendAny (lineV c) (sz:=1) (bytes:=16) (z:= .string ⟨#[]⟩) (xs:=A.flatMap lineV) (m0:=A.length) (o:=o) (m:=1) (pk:=[ownG 9 (A.flatMap lineV) (o)]) rfl rfl Tryz.underlying23 (by kernel_rfl) rfl (by omega) (by repeat(first|exact .nil|apply Pick.cons|exact .here|apply Ext.there)) (by simp) ho (by rfl) (fun hm0=>⟨b27,0,rfl,fun w hw=>V.range_of_block (o:=0) (cs:=lineV c) (r:=[]) (hw.own _ (show InS (b27,.cells (lineV c).toArray 9 (0,0)) _ from(by repeat(first|exact .here|exact .inner .here|exact .inner (.inner .here)|refine .there ?_))).mem) rfl⟩) (by rfl) (by omega) (by omega)) fun o2 ho2=>Lv Av<|Nl<|Ps<|Rg<|Lv Av<|Nl<|Bn<|Ps<|Rg<|Lv Mv<|Lv Ar<|Lv Av<|Nl ?_
    rw[show A.flatMap lineV++lineV c=(A++[c]).flatMap lineV by simp]
    rw[show A.length+1=(A++[c]).length by simp]
    exact roundA ((A++[c],[],o2,i+1)) ⟨by simp only;omega,by simp only;rw[hws];simp,by simp only[List.length_append,List.flatMap_append,List.flatMap_cons,List.flatMap_nil,List.append_nil];exact ho2,Nat.zero_le _⟩ (by simp only;omega)
   ·replace h24:=bF h24
    have hc0:c=[]:=by simpa using h24
    rw[if_pos hc0] at hws
    refine Sk<|Ps<|Rg<|Lv Av<|Nl<|Bn<|Ps<|Rg<|Lv Mv<|Lv Ar<|Lv Av<|Nl ?_
    exact roundA ((A,[],o,i+1)) ⟨by simp only;omega,hws,ho,Nat.zero_le _⟩ (by simp only;omega)
 ·replace h9:=bF h9
  obtain rfl:i=l.length:=by omega
  rw[List.drop_length,wordsB] at hw
  refine Xt<|Te<|Te<|Bh<|Ps<|Sq<|Sq<|Rg<|Lv Mv<|Lv NS<|Nl<|Ps ?_
  refine CW.cond rfl (fun h30=>?_) (fun h30=>?_)
  ·replace h30:=bT h30
   have hc0:¬c=[]:=by simpa using h30
   rw[if_neg hc0] at hw
   refine Rg<|Lv Mv<|Lv Mv<|Le (Eff.buildSlice (rfl) [_] Tryz.underlying23 Tryz.sizeOf9 (by exact Tryz.zeroValue9) rfl rfl rfl rfl (by rfl)) fun b33 _=>Le (Eff.appendAny (lineV c) (sz:=1) (bytes:=16) (z:= .string ⟨#[]⟩) (xs:=A.flatMap lineV) (m0:=A.length) (o:=o) (m:=1) (pk:=[ownG 9 (A.flatMap lineV) (o)]) rfl rfl Tryz.underlying23 (by kernel_rfl) rfl (by omega) (by repeat(first|exact .nil|apply Pick.cons|exact .here|apply Ext.there)) (by simp) ho (by rfl) (fun hm0=>⟨b33,0,rfl,fun w hw=>V.range_of_block (o:=0) (cs:=lineV c) (r:=[]) (hw.own _ (show InS (b33,.cells (lineV c).toArray 9 (0,0)) _ from(by repeat(first|exact .here|exact .inner .here|exact .inner (.inner .here)|refine .there ?_))).mem) rfl⟩) (by rfl) (by omega) (by omega)) fun o2 ho2=>Lv Av<|Nl<|Ps<|Sq<|Rg<|Lv Mv<|Lv Av<|Nl<|Ps<|Rt<|Rt1 ?_
   rw[show A.flatMap lineV++lineV c=(A++[c]).flatMap lineV by simp] at ho2⊢
   intro w' hw';exact⟨o2,by rw[hw];simpa using ho2,by rw[hw];simp,by rw[hw];exact hw'.pick (by repeat(first|exact .nil|apply Pick.cons|exact .here|apply Ext.there))⟩
  ·replace h30:=bF h30
   have hc0:c=[]:=by simpa using h30
   rw[if_pos hc0,List.append_nil] at hw
   refine Sk<|Ps<|Sq<|Rg<|Lv Mv<|Lv Av<|Nl<|Ps<|Rt<|Rt1 ?_
   intro w' hw';exact⟨o,by rw[hw];exact ho,by rw[hw],by rw[hw];exact hw'⟩
instance:Cal Tryz.prog 5:=⟨Tryz.call5⟩
instance:Cal Tryz.prog 6:=⟨Tryz.call6⟩
theorem words_ne:∀(l c w:List UInt8),w∈wordsB c l→w≠[]
 |[],c,w,h=>by
  rw[wordsB] at h
  split at h
  ·cases h
  ·obtain rfl:w=c:=by simpa using h
   assumption
 |b::r,c,w,h=>by
  rw[wordsB] at h
  split at h
  ·split at h
   ·exact words_ne r [] w h
   ·rcases List.mem_cons.1 h with rfl|h
    ·assumption
    ·exact words_ne r [] w h
  ·exact words_ne r (c++[b]) w h
theorem words_blank:∀n:Nat,wordsB [] (List.replicate n 32)=[]
 |0=>rfl
 |n+1=>by rw[List.replicate_succ,wordsB,if_pos rfl,if_pos rfl];exact words_blank n
theorem run_big (l:List UInt8)(hl:65536<l.length)(hl2:l.length≤1000000)(w:World):Calls Tryz.prog 7 [str l].toArray w fun e w'=>e= .returned (.tuple #[str [],.int .i64 5])∧Below w.heap.size w w':=by
 refine V.calls [] Tryz.func7 rfl Tryz.ntmps7 (Nat.le_of_ble_eq_true rfl) (V.sat_nil _)<|Sq<|Rg<|Lv Av<|Lv Av<|Nl<|Ps<|Sq<|Sq<|Rg<|Lv Mv<|Lv LnS<|Lv Cm<|LW.re 10 (.bool true) rfl (by congr 1;simp[str];omega)<|Nl<|Ps<|Ct<|Sq<|Rg<|Lv Av<|Lv Av<|Nl<|Ps<|Rt<|Tr<|Rt2 ?_
 intro w' hw;exact⟨rfl,hw.below⟩
theorem first_g (l:List UInt8)(w:World):Calls Tryz.prog 3 [str l].toArray w fun e w'=>e= .returned (.bool true)∧Below w.heap.size w w':=by
 refine V.calls [] Tryz.func3 rfl Tryz.ntmps3 (Nat.le_of_ble_eq_true rfl) (V.sat_nil _)<|Sq<|Rg<|Lv Av<|Nl<|Ps<|Sq<|Sq<|Rg<|Lv Mv<|Lv LnS<|Lv Cm<|Nl<|Ps ?_
 refine CW.cond rfl (fun h10=>?_) (fun h10=>?_)
 ·replace h10:=bT h10
  refine Sq<|Rg<|Le (CV fun w hw=>awake_g w) fun _ _=>Lv Av<|Nl<|Ps<|Rt<|Tr<|Rt1 ?_
  intro w' hw;exact⟨rfl,hw.below⟩
 ·replace h10:=bF h10
  refine Sk<|Ps<|Sq<|Sq<|Rg<|Lv Av<|Nl<|Ps<|Bk<|loopA (γ:=Nat) (fun k=>[(0,str l),(3,.int .i64 (k:Nat))]) (fun _=>[]) (fun k=>k≤l.length∧∀j:Nat,j<k→l[j]? ≠some 10) (fun k=>l.length-k) (0) ⟨Nat.zero_le _,fun j hj=>absurd hj (Nat.not_lt_zero _)⟩ fun k=>?_
  rintro⟨hk1,hk2⟩
  refine Sq<|Sq<|Rg<|Lv Mv<|Lv Mv<|Lv LnS<|Lv Cm<|Nl<|Ps ?_
  refine CW.cond rfl (fun h15=>?_) (fun h15=>?_)
  ·replace h15:=bT h15
   obtain⟨b,hb⟩:∃b,l[k]? =some b:=⟨l[k],by simp⟩
   refine Sk<|Ps<|Sq<|Bk<|Sq<|Rg<|Lv Mv<|Lv Mv<|Lv (V.Val.indexStr (l:=l) (i:=k) (u:=b) rfl rfl Tryz.underlying9 hb)<|Lv Cm<|Nl<|Ps ?_
   refine CW.cond rfl (fun h21=>?_) (fun h21=>?_)
   ·replace h21:=bT h21
    refine Sq<|Rg<|Le (CV fun w hw=>awake_g w) fun _ _=>Lv Av<|Nl<|Ps<|Rt<|Br<|Tr<|Tr<|Br<|Tr<|Rt1 ?_
    intro w' hw;exact⟨rfl,hw.below⟩
   ·replace h21:=bF h21
    have hb10:b≠10:=fun e=>by subst e;exact absurd h21 (by simp)
    refine Sk<|Bn<|Ps<|Rg<|Lv Mv<|Lv Ar<|Lv Av<|Nl ?_
    refine PQ.round (k+1) ⟨by omega,fun j hj=>by
     rcases Nat.lt_succ_iff_lt_or_eq.1 hj with h|h
     ·exact hk2 j h
     ·subst h;rw[hb];simpa using hb10⟩ (by omega) (by repeat(first|exact trivial|refine⟨rfl,?_⟩)) (by repeat(first|exact .nil|apply Pick.cons|exact .here|apply Ext.there))
  ·replace h15:=bF h15
   have hno:∀j:Nat,l[j]? ≠some 10:=fun j=>by
    rcases Nat.lt_or_ge j l.length with h|h
    ·exact hk2 j (by omega)
    ·rw[List.getElem?_eq_none h];simp
   refine Xt<|Te<|Te<|Bh<|Ps<|Sq<|Rg<|Lv Mv<|Le (CM [] fun w hw hs0=>words_g l (by omega) w) fun o8 ho8=>?_
   have hne:=words_ne l []
   have hone:=run_one l (by omega) hno
   obtain⟨ws,hws⟩:∃ws,wordsB [] l=ws:=⟨_,rfl⟩
   rw[hws] at ho8 hne hone⊢
   obtain⟨p8,c8,hv8,hc8,hW8⟩:=words_own (e:=9) ws o8 ho8
   rw[hv8]
   refine Lv Av<|Nl<|Ps<|Sq<|Sq<|Rg<|Lv Mv<|Lv Ln<|Lv Cm<|Lv Mv ?_
   refine LW.split (d:=28) rfl (fun h28=>?_) (fun h28=>?_)
   ·replace h28:=bT h28
    obtain⟨w0,wr,rfl⟩:∃w0 wr,ws=w0::wr:=by
     cases ws with
     |nil=>simp at h28
     |cons a b=>exact⟨a,b,rfl⟩
    obtain⟨b8,o8b,rfl⟩:∃b o,p8=some ⟨b,o,none⟩:=by
     rcases o8 with _|⟨g8,r8,k8⟩
     ·exact absurd ho8.2 (by simp)
     ·cases hv8;exact⟨_,_,rfl⟩
    obtain⟨u0,ur,rfl⟩:∃u0 ur,w0=u0::ur:=by
     cases w0 with
     |nil=>exact absurd rfl (hne [] (by simp))
     |cons a b=>exact⟨a,b,rfl⟩
    refine Lv Mv<|Lv (Val.indexAddrN (i:=0) rfl rfl Tryz.underlying23 Tryz.sizeOf9 (by simp))<|Lv (V.Val.loadH rfl Tryz.isAgg9 (fun w hw=>hW8.cell (hw.sat.pick (ss:=[ownG 9 (((u0::ur)::wr).flatMap lineV) o8]) (by repeat(first|exact .nil|apply Pick.cons|exact .here|apply Ext.there)))))<|Lv ES<|Lv Pt<|Nl<|Ps ?_
    refine CW.cond rfl (fun h33=>?_) (fun h33=>?_)
    ·replace h33:=bT h33
     refine Sq<|Rg<|Le (CV fun w hw=>awake_g w) fun _ _=>Lv Av<|Nl<|Ps<|Rt<|Tr<|Rt1 ?_
     intro w' hw;exact⟨rfl,hw.below⟩
    ·replace h33:=bF h33
     have h33:u0::ur≠[110,101,119]:=by simpa[str] using h33
     refine Sk<|Ps<|Sq<|Rg<|Lv Av<|Nl<|Ps<|Sq<|Sq<|Rg<|Lv Mv<|Lv Ln<|Lv Cm<|Lv Mv ?_
     refine LW.split (d:=38) rfl (fun h38=>?_) (fun h38=>?_)
     ·exact absurd h38 (by simp<;>omega)
     ·replace h38:=bF h38
      refine Lv Mv<|Lv (Val.indexAddrN (i:=0) rfl rfl Tryz.underlying23 Tryz.sizeOf9 (by simp))<|Lv (V.Val.loadH rfl Tryz.isAgg9 (fun w hw=>hW8.cell (hw.sat.pick (ss:=[ownG 9 (((u0::ur)::wr).flatMap lineV) o8]) (by repeat(first|exact .nil|apply Pick.cons|exact .here|apply Ext.there)))))<|Lv (V.Val.indexStr (l:=u0::ur) (i:=0) (u:=u0) rfl rfl Tryz.underlying9 rfl)<|Lv Cm<|Lv Pf<|Nl<|Ps ?_
      refine CW.cond rfl (fun h44=>?_) (fun h44=>?_)
      ·replace h44:=bT h44
       have h44:(u0.toNat:Int)=35:=by simpa using h44
       have hu:u0=35:=UInt8.toNat_inj.1 (by simp;omega)
       have he:errF l=[]:=by unfold errF skipB head1;rw[hws];simp[hu]
       refine Rg<|Lv Av<|Nl<|Ps<|Sq<|Rg<|Lv Mv<|Le (CV fun w hw=>(hone (by simpa using h33) w)) fun _ _=>Lv Mv<|Lv Ex<|Lv Ex<|Lv Av<|Lv Av<|Nl<|Ps<|Sq<|Rg<|Lv Mv<|Lv Mv<|Lv ES<|LW.re 52 (.bool true) rfl (by rw[he];rfl)<|Lv Mv<|Lv Mv<|Lv Cm<|LW.re 55 (.bool true) rfl (by rfl)<|Lv Pt<|Lv Mv<|Le (CV fun w hw=>awake_g w) fun _ _=>Lv Pt<|Lv Av<|Nl<|Ps<|Rt<|Rt1 ?_
       intro w' hw;exact⟨rfl,hw.below⟩
      ·replace h44:=bF h44
       have h44:¬(u0.toNat:Int)=35:=by simpa using h44
       have hu:¬u0=35:=fun e=>h44 (by rw[e];rfl)
       have he:errF l=[101,114,114,111,114,10]:=by unfold errF skipB head1;rw[hws];simp[hu]
       refine Sk<|Ps<|Sq<|Rg<|Lv Mv<|Le (CV fun w hw=>(hone (by simpa using h33) w)) fun _ _=>Lv Mv<|Lv Ex<|Lv Ex<|Lv Av<|Lv Av<|Nl<|Ps<|Sq<|Rg<|Lv Mv<|Lv Mv<|Lv ES<|LW.re 52 (.bool true) rfl (by rw[he];rfl)<|Lv Mv<|Lv Mv<|Lv Cm<|LW.re 55 (.bool true) rfl (by rfl)<|Lv Pt<|Lv Mv<|Le (CV fun w hw=>awake_g w) fun _ _=>Lv Pt<|Lv Av<|Nl<|Ps<|Rt<|Rt1 ?_
       intro w' hw;exact⟨rfl,hw.below⟩
   ·replace h28:=bF h28
    have h9:¬0<(ws.length:Int):=by omega
    obtain rfl:ws=[]:=List.length_eq_zero_iff.1 (by omega)
    have he:errF l=[]:=by unfold errF skipB;rw[hws];rfl
    refine Lp<|Lp<|Lp<|Lp<|Lv Pf<|Nl<|Ps<|Cf<|Sk<|Ps<|Sq<|Rg<|Lv Av<|Nl<|Ps<|Sq<|Sq<|Rg<|Lv Mv<|Lv Ln<|Lv Cm<|Lv Mv ?_
    refine LW.split (d:=38) rfl (fun h38=>?_) (fun h38=>?_)
    ·replace h38:=bT h38
     refine Lp<|Lp<|Lp<|Lp<|Lp<|Lv Pt<|Nl<|Ps<|Ct<|Rg<|Lv Av<|Nl<|Ps<|Sq<|Rg<|Lv Mv<|Le (CV fun w hw=>(hone (by simp) w)) fun _ _=>Lv Mv<|Lv Ex<|Lv Ex<|Lv Av<|Lv Av<|Nl<|Ps<|Sq<|Rg<|Lv Mv<|Lv Mv<|Lv ES<|LW.re 52 (.bool true) rfl (by rw[he];rfl)<|Lv Mv<|Lv Mv<|Lv Cm<|LW.re 55 (.bool true) rfl (by rfl)<|Lv Pt<|Lv Mv<|Le (CV fun w hw=>awake_g w) fun _ _=>Lv Pt<|Lv Av<|Nl<|Ps<|Rt<|Rt1 ?_
     intro w' hw;exact⟨rfl,hw.below⟩
    ·exact absurd h38 (by simp)
theorem rep_set (n i:Nat)(h:i<n):(List.replicate i (32:UInt8)++List.replicate (n-i) 0).set i 32=List.replicate (i+1) 32++List.replicate (n-(i+1)) 0:=by
 rw[List.set_append_right _ _ (by simp),List.length_replicate,Nat.sub_self,show n-i=(n-(i+1))+1 by omega,List.replicate_succ,List.set_cons_zero,show List.replicate (i+1) (32:UInt8)=List.replicate i 32++[32] by rw[List.replicate_succ']]
 simp
theorem rep_no (n:Nat):∀k:Nat,(List.replicate n (32:UInt8))[k]? ≠some 10:=fun k h=>by
 have:=List.eq_of_mem_replicate (List.mem_of_getElem? h)
 cases this
theorem err_rep (n:Nat):errF (List.replicate n 32)=[]:=by unfold errF skipB;rw[words_blank];rfl
theorem run_rep (v:Nat)(hv:(v:Int)<14)(w:World):Calls Tryz.prog 7 [str (List.replicate (65530+v) 32)].toArray w fun e w'=>∃e5:Nat,(if 65530+v≤65536 then e5=0 else e5=5)∧e= .returned (.tuple #[str [],.int .i64 (e5:Nat)])∧Below w.heap.size w w':=by
 by_cases h:65530+v≤65536
 ·exact(run_one (List.replicate (65530+v) 32) (by rw[List.length_replicate];exact h) (rep_no _) (by rw[words_blank];simp) w).mono fun e w' ⟨h2,h3⟩=>⟨0,by rw[if_pos h],by rw[h2,err_rep];rfl,h3⟩
 ·exact(run_big (List.replicate (65530+v) 32) (by rw[List.length_replicate];omega) (by rw[List.length_replicate];omega) w).mono fun e w' ⟨h2,h3⟩=>⟨5,by rw[if_neg h],by rw[h2];rfl,h3⟩
theorem long_g (a:Int)(w:World):Calls Tryz.prog 4 [.int .i64 a].toArray w fun e w'=>e= .returned (.bool true)∧Below w.heap.size w w':=by
 refine V.calls [] Tryz.func4 rfl Tryz.ntmps4 (Nat.le_of_ble_eq_true rfl) (V.sat_nil _)<|Sq<|Rg<|Lv Av<|Nl<|Ps<|Sq<|Rg<|Lv Mv ?_
 refine LW.e rfl rfl (Eff.callR rfl Tryz.call8 (fun w hw=>by
  obtain⟨v1,hv1,h1⟩:=low_g a 14 (by omega) w
  exact h1.mono fun e w' ⟨h2,h3⟩=>⟨v1,hv1,h2,h3⟩)) ?_
 intro v hv
 have hv:(v:Int)<14:=hv
 refine Lv Ar<|LW.re 10 (.int .i64 ((65530+v:Nat):Int)) rfl (by congr 1<;>omega)<|Lv Av<|Nl<|Ps<|Sq<|Rg<|Lv Mv<|Le (Eff.makeSlice (m:=65530+v) (by_:=1) (zl:=[.int .u8 0]) rfl rfl Tryz.underlying30 (by kernel_rfl) Tryz.sizeOf5 (by exact Tryz.zeroValue5) (by kernel_rfl) rfl (by omega) (by omega) (by omega)) fun b12 _=>?_
 rw[zeros_byC]
 refine Lv Av<|Nl<|Ps<|Sq<|Sq<|Rg<|Lv Av<|Nl<|Ps<|Bk<|CW.loop (γ:=Nat) (fun k=>[(3,.int .i64 ((65530+v:Nat):Int)),(4,.slice (some ⟨b12,0,none⟩) (65530+v) (65530+v)),(5,.int .i64 (k:Nat))]) (fun k=>[[(b12,.cells (byC (List.replicate k 32++List.replicate (65530+v-k) 0)).toArray 5 (0,0))]]) (fun k=>k≤65530+v) (fun k=>65530+v-k) (0) (Nat.zero_le _) (by repeat(first|exact trivial|refine⟨rfl,?_⟩)) (by simpa using Pick.cons .here .nil) fun k hk=>Sq<|Sq<|Rg<|Lv Mv<|Lv Mv<|Lv Cm<|Nl<|Ps ?_
 refine CW.cond rfl (fun h15=>?_) (fun h15=>?_)
 ·replace h15:=bT h15
  refine Sk<|Ps<|Sq<|Bk<|Rg<|Lv Mv<|Lv Mv<|Lv (Val.indexAddrN (i:=k) rfl rfl Tryz.underlying30 Tryz.sizeOf5 (by omega))<|LeN (Eff.storeX (l:=byC (List.replicate k 32++List.replicate (65530+v-k) 0)) (l':=byC (List.replicate (k+1) 32++List.replicate (65530+v-(k+1)) 0)) rfl rfl rfl (by repeat(first|exact .here|exact .inner .here|exact .inner (.inner .here)|apply Upd.there)) (by have h8:=set_byC (List.replicate k 32++List.replicate (65530+v-k) 0) k (32:UInt8);rw[rep_set _ _ (by omega)] at h8;simpa using h8) (by simp only[V.byC_len,List.length_append,List.length_replicate];omega) Tryz.sizeOf5) fun _ _=>Nl<|Bn<|Ps<|Rg<|Lv Mv<|Lv Ar<|Lv Av<|Nl ?_
  exact roundA (k+1) (by omega) (by omega)
 ·replace h15:=bF h15
  have hk9:k=65530+v:=by omega
  subst hk9
  rw[Nat.sub_self,show List.replicate (65530+v) (32:UInt8)++List.replicate 0 0=List.replicate (65530+v) 32 by simp]
  rw[show([(b12,.cells (byC (List.replicate (65530+v) 32)).toArray 5 (0,0))]:V.Seg)=ownG 5 (byC (List.replicate (65530+v) 32)) (some (b12,[],65530+v)) by simp[V.ownG,V.ownS]]
  refine Xt<|Te<|Te<|Bh<|Ps<|Sq<|Rg<|Lv Mv<|Lv (Val.convBytes (l:=List.replicate (65530+v) 32) (o:=some (b12,[],65530+v)) (by rw[List.length_replicate];rfl) Tryz.underlying30 Tryz.underlying5 Tryz.underlying9 ⟨by rw[V.byC_len,List.length_replicate,Nat.mul_one],by show(byC (List.replicate (65530+v) 32)).length+0=_;rw[V.byC_len,List.length_replicate];omega⟩ (pk:=[ownG 5 (byC (List.replicate (65530+v) 32)) (some (b12,[],65530+v))]) (by repeat(first|exact .nil|apply Pick.cons|exact .here|apply Ext.there)) (by simp))<|Le (CR fun w hw=>run_rep v hv w) fun e5 he5=>Lv Mv<|Lv Ex<|Lv Ex<|Lv Av<|Lv Av<|Nl<|Ps<|Sq<|Rg<|Lv Mv<|Lv ES<|Lv Mv ?_
  refine LW.split (d:=29) rfl (fun h29=>?_) (fun h29=>?_)
  ·replace h29:=bT h29
   refine Lv Mv<|Lv Cm<|Lv Mv<|Lv Cm<|Lv (Val.eqB rfl rfl Tryz.underlying4)<|Lv Pt<|Lv Mv ?_
   refine LW.split (d:=36) rfl (fun h36=>?_) (fun h36=>?_)
   ·replace h36:=bT h36
    refine Lv Mv<|Lv Cm<|Lv Mv ?_
    refine LW.split (d:=39) rfl (fun h39=>?_) (fun h39=>?_)
    ·replace h39:=bT h39
     refine Lp<|Lp<|Lv Pt<|Lv Pt<|Lv Mv<|Le (CV fun w hw=>awake_g w) fun _ _=>Lv Pt<|Lv Av<|Nl<|Ps<|Rt<|Rt1 ?_
     intro w' hw;exact⟨by first|rfl|(exfalso;first|exact h29 rfl|(split at he5<;>subst he5<;>simp at h36<;>omega)|(split at he5<;>subst he5<;>simp at h39 h44)),hw.below⟩
    ·replace h39:=bF h39
     refine Lv Mv<|Lv Cm<|Lv Pf<|Lv Pt<|Lv Mv ?_
     refine LW.split (d:=44) rfl (fun h44=>?_) (fun h44=>?_)
     ·replace h44:=bT h44
      refine Le (CV fun w hw=>awake_g w) fun _ _=>Lv Pt<|Lv Av<|Nl<|Ps<|Rt<|Rt1 ?_
      intro w' hw;exact⟨by first|rfl|(exfalso;first|exact h29 rfl|(split at he5<;>subst he5<;>simp at h36<;>omega)|(split at he5<;>subst he5<;>simp at h39 h44)),hw.below⟩
     ·replace h44:=bF h44
      refine Lp<|Lv Pf<|Lv Av<|Nl<|Ps<|Rt<|Rt1 ?_
      intro w' hw;exact⟨by first|rfl|(exfalso;first|exact h29 rfl|(split at he5<;>subst he5<;>simp at h36<;>omega)|(split at he5<;>subst he5<;>simp at h39 h44)),hw.below⟩
   ·replace h36:=bF h36
    refine Lp<|Lp<|Lp<|Lp<|Lp<|Lp<|Lv Pf<|Lv Mv<|Lp<|Lv Pf<|Lv Av<|Nl<|Ps<|Rt<|Rt1 ?_
    intro w' hw;exact⟨by first|rfl|(exfalso;first|exact h29 rfl|(split at he5<;>subst he5<;>simp at h36<;>omega)|(split at he5<;>subst he5<;>simp at h39 h44)),hw.below⟩
  ·replace h29:=bF h29
   refine Lp<|Lp<|Lp<|Lp<|Lp<|Lv Pf<|Lv Mv<|Lp<|Lp<|Lp<|Lp<|Lp<|Lp<|Lv Pf<|Lv Mv<|Lp<|Lv Pf<|Lv Av<|Nl<|Ps<|Rt<|Rt1 ?_
   intro w' hw;exact⟨by first|rfl|(exfalso;first|exact h29 rfl|(split at he5<;>subst he5<;>simp at h36<;>omega)|(split at he5<;>subst he5<;>simp at h39 h44)),hw.below⟩
end G
end Go.Proofs.YtpjmdbifacijoaaGreatDoor
