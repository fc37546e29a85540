import Derived.Test.YtpjmdbifacijoaaGreatDoorQa4
/- What the law leans on, part 5. -/
namespace Go.Proofs.YtpjmdbifacijoaaGreatDoor
open Go Go.RowKit V
set_option linter.unusedVariables false
set_option maxRecDepth 100000
namespace G
open V (str byC ownV ownG ownS ownOk)
instance:Cal Tryz.prog 399:=⟨Tryz.call399⟩
instance:Cal Tryz.prog 400:=⟨Tryz.call400⟩
def minL:List Lk→Option Lk
 |[]=>none
 |x::r=>match minL r with
  |none=>some x
  |some y=>if y.key<x.key then some y else some x
def bkL (Tz:Tbl)(b:Int):List Lk:=if 0≤b∧b<8 then((Tz[b.toNat]?).map fun p=>p.1.map (·.2)).getD [] else[]
def tNext (Tz:Tbl)(b:Int)(pos:List UInt8)(past:Bool):Option Lk:=minL ((bkL Tz b).filter fun l=> !past||decide (pos<l.key))
theorem minL_mem:∀{L:List Lk} {x:Lk},minL L=some x→x∈L∧∀y∈L,¬y.key<x.key
 |[],x,h=>by cases h
 |a::r,x,h=>by
  rw[minL] at h
  cases hm:minL r with
  |none=>
   rw[hm] at h
   have hr:r=[]:=by
    cases r with
    |nil=>rfl
    |cons z q=>
     rw[minL] at hm
     split at hm
     ·cases hm
     ·split at hm<;>cases hm
   subst hr
   simp only[Option.some.injEq] at h
   subst h
   exact⟨by simp,fun y hy=>by simp at hy;rw[hy];exact List.lt_irrefl _⟩
  |some y=>
   rw[hm] at h
   obtain⟨h1,h2⟩:=minL_mem hm
   simp only at h
   split at h
   ·rename_i h3
    simp only[Option.some.injEq] at h
    subst h
    refine⟨List.mem_cons_of_mem _ h1,fun z hz=>?_⟩
    rcases List.mem_cons.1 hz with rfl|hz
    ·exact fun h4=>List.lt_irrefl _ (List.lt_trans h3 h4)
    ·exact h2 z hz
   ·rename_i h3
    simp only[Option.some.injEq] at h
    subst h
    refine⟨by simp,fun z hz=>?_⟩
    rcases List.mem_cons.1 hz with rfl|hz
    ·exact List.lt_irrefl _
    ·intro h4
     rcases Classical.em (z.key<y.key) with h5|h5
     ·exact h2 z hz h5
     ·exact h3 (List.lt_of_le_of_lt (List.not_lt.1 h5) h4)
theorem minL_none {L:List Lk}:minL L=none↔L=[]:=by
 cases L with
 |nil=>simp[minL]
 |cons x r=>
  rw[minL]
  split
  ·simp
  ·split<;>simp
theorem minL_is {L:List Lk}(hn:(L.map (·.key)).Nodup){x:Lk}(hx:x∈L)(h:∀y∈L,x.key≤y.key):minL L=some x:=by
 cases hm:minL L with
 |none=>rw[minL_none.1 hm] at hx;cases hx
 |some y=>
  obtain⟨h1,h2⟩:=minL_mem hm
  have h3:y.key=x.key:=List.le_antisymm (List.not_lt.1 (h2 x hx)) (h y h1)
  rw[key_one hn h1 hx h3]
theorem me_len (E:LE):(me E).length=E.length:=by unfold me;rw[List.length_map]
theorem me_nd {E:LE}(h:((E.map (·.2)).map (·.key)).Nodup):mnd (me E):=by
 unfold mnd me
 rw[List.map_map]
 have h1:=List.Pairwise.map (R:=(· ≠·)) (S:=(· ≠·)) byK (fun a b hab h=>hab (byK_inj.1 h)) h
 simpa[List.map_map,Function.comp_def,List.Nodup] using h1
theorem me_keys (E:LE):(me E).map (fun e=>e.2.1.data.toList)=(E.map (·.2)).map (·.key):=by
 unfold me;rw[List.map_map,List.map_map];rfl
theorem lget_mem {E:LE}(hn:((E.map (·.2)).map (·.key)).Nodup){x:Lk}(hx:x∈E.map (·.2)):lget E x.key=some x:=by
 obtain⟨e,he,rfl⟩:=List.mem_map.1 hx
 unfold lget
 cases hf:E.find? fun z=>decide (z.2.key=e.2.key) with
 |none=>exact absurd (List.find?_eq_none.1 hf e he) (by simp)
 |some z=>
  have h1:=List.find?_some hf
  have h2:=List.mem_of_find?_eq_some hf
  simp only[decide_eq_true_eq] at h1
  rw[Option.map_some,key_one hn (List.mem_map_of_mem h2) hx h1]
theorem lt_dec (a b:List UInt8):(!(Op.bytesLess (⟨b.toArray⟩:ByteArray).toList (⟨a.toArray⟩:ByteArray).toList||decide ((⟨b.toArray⟩:ByteArray)=⟨a.toArray⟩)))=decide (a<b):=by
 rw[ByteArray.toList_eq,ByteArray.toList_eq,Go.Proofs.bytesLess_eq,Bool.eq_iff_iff]
 simp only[Bool.not_eq_true',Bool.or_eq_false_iff,decide_eq_false_iff_not,decide_eq_true_eq]
 constructor
 ·rintro⟨h1,h2⟩
  rcases Classical.em (a<b) with h3|h3
  ·exact h3
  ·exact absurd (byK_inj.2 (List.le_antisymm (List.not_lt.1 h3) (List.not_lt.1 h1))) h2
 ·intro h
  refine⟨fun h1=>List.lt_irrefl _ (List.lt_trans h h1),fun h2=>?_⟩
  rw[byK_inj.1 h2] at h
  exact List.lt_irrefl _ h
theorem keys_c2 (b:Nat)(w:World):Calls Tryz.prog 400 [.map (some b)].toArray w fun e w'=>∃kb:Nat,True∧e= .returned (.func (.func 434) #[] #[.pointer (some ⟨kb,0,none⟩)])∧Hp ⟨w,[]⟩ [[(kb,.cells [.map (some b)].toArray 267 (0,0))]] w':=by
 have h:=(callsIn_wide (n:=5)).1 (AnyZ.keys_in Tryz.keys400 Fence.wide 5 trivial rfl (some b) w)
 change Calls Tryz.prog 400 _ _ _ at h
 refine h.mono fun e w' ⟨h1,h2⟩=>⟨w.heap.size,trivial,h1,?_⟩
 subst h2
 have h0:Hp ⟨w,[]⟩ [] w:=⟨rfl,rfl,rfl,Nat.le_refl _,fun _ _ _=>rfl,by simp,by simp,by simp⟩
 exact h0.alloc _
theorem sortsIn2 (m:Nat):AnyZ.SortsIn Tryz.prog Tryz.sorted399_ren Fence.wide m:=
 ⟨fun blk off cap ss W hH hblk hsz=>callsIn_wide.2 (AnyM.slices_Sort_string Tryz.sort433 blk off cap ss W hH hblk hsz),
  fun p cap W=>callsIn_wide.2 (AnyM.slices_Sort_string_none Tryz.sort433 p cap W)⟩
theorem sortedKeys_c2 (kb b c:Nat)(E:V.ME)(hE:mnd E)(hS:Stp E c)(hk:∀e∈E,e.2.1.size≤maxLen)(hn:E.length≤100000)(w:World)(hs:Sat [[(kb,.cells [.map (some b)].toArray 267 (0,0))]] w)(hb:w.heap[b]? =some (mpO E c)):
 Calls Tryz.prog 399 [.func (.func 434) #[] #[.pointer (some ⟨kb,0,none⟩)]].toArray w fun e w'=>∃y:V.OwnO×List (List UInt8),((y.2.Perm (E.map fun e=>e.2.1.data.toList)∧y.2.Pairwise (· <·))∧ownOk 1 y.2.length (y.2.map str) y.1)∧e= .returned (ownV y.2.length y.1)∧Hp ⟨w,[]⟩ [ownG 9 (y.2.map str) y.1] w':=by
 have hkb:w.heap[kb]? =some (.cells [.map (some b)].toArray 267 (0,0)):=hs.own (kb,.cells [.map (some b)].toArray 267 (0,0)) (by simp)
 have hlen:E.length≤maxLen:=by unfold maxLen;omega
 have hown:=V.owns_keys (P:=Tryz.prog) (kt:=9) Tryz.underlying9 hE hS hk hlen hb
 have hseq:SeqGives Fence.wide 2 Tryz.prog 434 #[.pointer (some ⟨kb,0,none⟩)] Go.Proofs.encStr (fun ss=>ss.Perm (Go.strKeys (V.keyD E))) (Maps.size (V.keyD E)) w:=
  AnyZ.keys_gives (ρ:=Tryz.keys400_ren) {Tryz.keys400 with} Fence.wide _ trivial rfl (by omega) kb b E.length (V.keyD E) w (V.lt_of_some hkb) (V.cell_of_block hkb rfl) hown
 have hcon:=AnyZ.sorted_in Tryz.sorted399 Fence.wide 5 trivial trivial trivial trivial rfl (by omega) (sortsIn2 _) (enters_of Tryz.func433 (by kernel_rfl) rfl) 434 #[.pointer (some ⟨kb,0,none⟩)] trivial (enters_of Tryz.func434 (by kernel_rfl) rfl) _ _ (by rw[V.keyD_size];exact hlen) (by rw[V.keyD_size];omega) w hseq
 have hcon2:=(callsIn_wide (n:=5)).1 hcon
 change Calls Tryz.prog 399 _ _ _ at hcon2
 refine hcon2.mono fun e w' ⟨v,ss,h1,h2,h3,h4,h5⟩=>?_
 have hp:(ss.mergeSort fun x y=>decide (x≤y)).Perm ss:=List.mergeSort_perm _ _
 have hle:(ss.mergeSort fun x y=>decide (x≤y)).length=ss.length:=hp.length_eq
 rw[← hle] at h3
 obtain⟨o,hv,hok,hhp⟩:=V.hp_of_below h5 h3
 have hperm:(ss.mergeSort fun x y=>decide (x≤y)).Perm (E.map fun e=>e.2.1.data.toList):=hp.trans (h2.trans (V.keyD_keys E))
 have hnd:(E.map fun e=>e.2.1.data.toList).Nodup:=by
  have hE':(E.map (fun e=>e.2.1)).Nodup:=hE
  have:=List.Pairwise.map (R:=(· ≠·)) (S:=(· ≠·)) (fun k:ByteArray=>k.data.toList) (fun a b hab h=>hab (by
   have h8:a.data=b.data:=Array.toList_inj.1 h
   cases a;cases b;simp at h8;rw[h8])) hE'
  simpa[List.map_map,Function.comp_def,List.Nodup] using this
 have hsort:(ss.mergeSort fun x y=>decide (x≤y)).Pairwise (fun a b=>decide (a≤b)=true):=List.pairwise_mergeSort (fun a b c h1 h2=>by simp only[decide_eq_true_eq] at*;exact List.le_trans h1 h2) (fun a b=>by simp only[Bool.or_eq_true,decide_eq_true_eq];exact List.le_total a b) ss
 have hnd2:=(List.Perm.nodup_iff hperm).2 hnd
 refine⟨(o,ss.mergeSort fun x y=>decide (x≤y)),⟨⟨hperm,?_⟩,hok⟩,by rw[h1,hv],hhp⟩
 refine(List.pairwise_and_iff.2 ⟨hsort,hnd2⟩).imp ?_
 intro a b ⟨h6,h7⟩
 have h8:a≤b:=of_decide_eq_true h6
 rcases Classical.em (a<b) with h9|h9
 ·exact h9
 ·exact absurd (List.le_antisymm h8 (List.not_lt.1 h9)) h7
theorem own_some2 {sz n:Nat}{xs:List Value}{o:V.OwnO}(h:ownOk sz n xs o)(hn:0<n):∃q,o=some q:=by
 cases o with
 |none=>exact absurd h.2 (by omega)
 |some q=>exact⟨q,rfl⟩
theorem nd_filter {L:List Lk}(p:Lk→Bool)(h:(L.map (·.key)).Nodup):((L.filter p).map (·.key)).Nodup:=(List.filter_sublist.map _).nodup h
theorem tnext_g (tb:Nat)(ms:List Nat)(Tz:Tbl)(hT:tbOk ms Tz)(hI:tInv Tz)(hn:(tLinks Tz).length≤1000)(hkl:∀l∈tLinks Tz,l.key.length≤100000)(b:Int)(pos:List UInt8)(past:Bool)(w:World)(hs:Sat (tbS tb ms Tz) w):Calls Tryz.prog 348 [.pointer (some ⟨tb,0,none⟩),.int .i64 b,str pos,.bool past].toArray w fun e w'=>e= .returned (.tuple #[.agg (lkC ((tNext Tz b pos past).getD lk0)).toArray,.bool (tNext Tz b pos past).isSome])∧Below w.heap.size w w':=by
 refine V.calls (tbS tb ms Tz) Tryz.func348 rfl Tryz.ntmps348 (Nat.le_of_ble_eq_true rfl) hs<|Sq<|Rg<|Le AA fun b8 _=>Lv Av<|Nl<|Ps<|Sq<|Sq<|Rg<|Lv Mv<|Lv EP<|Lv Mv<|Lv Mv<|Lv Cm<|Lv Pf<|Lv Mv ?_
 refine LW.split (d:=19) rfl (fun h19=>?_) (fun h19=>?_)
 ·replace h19:=bT h19
  refine Lp<|Lp<|Lv Pt<|Nl<|Ps<|Ct<|Sq<|Rg<|Lv (Bd [_,_,_,_,_])<|LeN StW fun _ _=>Lv Av<|Nl<|Ps<|Rt<|Tr<|PQ.retCT rfl rfl rfl (by repeat(first|exact .here|exact .inner .here|exact .inner (.inner .here)|refine .there ?_)) Tryz.isAgg94 (by exact Tryz.sizeOf94) ?_
  have e1:tNext Tz b pos past=none:=by
   unfold tNext bkL
   rw[if_neg (by omega)]
   rfl
  rw[e1]
  intro w' hw;exact⟨rfl,hw.ro (by repeat(first|exact .nil|apply Pick.cons|exact .here|apply Ext.there)) hs⟩
 ·replace h19:=bF h19
  refine Lv Mv<|Lv Cm<|Lv Pf<|Nl<|Ps ?_
  refine CW.cond rfl (fun h22=>?_) (fun h22=>?_)
  ·replace h22:=bT h22
   refine Sq<|Rg<|Lv (Bd [_,_,_,_,_])<|LeN StW fun _ _=>Lv Av<|Nl<|Ps<|Rt<|Tr<|PQ.retCT rfl rfl rfl (by repeat(first|exact .here|exact .inner .here|exact .inner (.inner .here)|refine .there ?_)) Tryz.isAgg94 (by exact Tryz.sizeOf94) ?_
   have e1:tNext Tz b pos past=none:=by
    unfold tNext bkL
    rw[if_neg (by omega)]
    rfl
   rw[e1]
   intro w' hw;exact⟨rfl,hw.ro (by repeat(first|exact .nil|apply Pick.cons|exact .here|apply Ext.there)) hs⟩
  ·replace h22:=bF h22
   obtain⟨nb,rfl⟩:=Int.eq_ofNat_of_zero_le (show 0≤b by omega)
   have hbk:nb<8:=by omega
   obtain⟨m,hm⟩:∃m,ms[nb]? =some m:=⟨ms[nb]'(by rw[hT.1];omega),by simp⟩
   obtain⟨p,hp⟩:∃p,Tz[nb]? =some p:=⟨Tz[nb]'(by rw[hT.2];omega),by simp⟩
   have hpm:=List.mem_of_getElem? hp
   have hnd:=le_nd hI hp
   have hbl:bkL Tz (nb:Nat)=p.1.map (·.2):=by unfold bkL;rw[if_pos (by omega),Int.toNat_natCast,hp];rfl
   have hpl:p.1.length≤1000:=by
    have h8:=(tLinks_split hp p).1
    have h9:=congrArg List.length h8
    simp only[List.length_append,List.length_map] at h9
    omega
   have hkm:∀e∈me p.1,e.2.1.size≤maxLen:=fun e he=>by
    unfold me at he
    obtain⟨z,hz,rfl⟩:=List.mem_map.1 he
    have h8:=hkl z.2 (List.mem_flatMap.2 ⟨p,hpm,List.mem_map_of_mem hz⟩)
    show(byK z.2.key).size≤maxLen
    unfold maxLen byK;simp only[ByteArray.size,List.size_toArray];omega
   refine Sk<|Ps<|Sq<|Rg<|Lv Mv<|Lv Mv<|Lv Nz<|Lv (Fa 0 268)<|Lv (Val.indexAddrA (i:=nb) rfl rfl Tryz.underlying268 Tryz.sizeOf267 (by omega))<|Lv (Ld (v:= .map (some m)) (hl:=tbC_at hm))<|Lv Av<|Nl<|Ps<|Sq<|Sq<|Rg<|Lv Mv<|Le (CM [] fun w hw hs0=>keys_c2 m w) fun kb _=>Le (CM [] fun w hw hs0=>sortedKeys_c2 kb m p.2 (me p.1) (me_nd hnd) (hI.st p hpm) hkm (by rw[me_len];omega) w (hw.sat.pick (ss:=[[(kb,.cells [.map (some m)].toArray 267 (0,0))]]) (by repeat(first|exact .nil|apply Pick.cons|exact .here|apply Ext.there))) (hw.own _ (show InS (m,mpO (me p.1) p.2) _ from(by repeat(first|exact InS.nth (tbM_at hm hp)|refine .there ?_))).mem)) ?_
   rintro⟨o,ss⟩ ⟨⟨hp9,hu⟩,hok⟩
   simp only at hp9 hu hok
   rw[me_keys] at hp9
   refine Lv (Val.lenOwn rfl Tryz.underlying23 hok)<|Lv Mv<|Nl<|Ps<|Bk<|loopA (γ:=Nat) (fun k=>[(2,str pos),(3,.bool past),(8,.pointer (some ⟨b8,0,none⟩)),(9,.bool false),(10,.map (some m)),(32,ownV ss.length o),(33,.int .i64 (ss.length:Nat)),(34,.int .i64 (k:Nat))]) (fun _=>[[(b8,.cells (lkC lk0).toArray 94 (0,0))]]++tbS tb ms Tz++[ownG 9 (ss.map str) o]) (fun k=>k≤ss.length∧∀(i:Nat) (s:List UInt8),i<k→ss[i]? =some s→past=true∧¬pos<s) (fun k=>ss.length-k) (0) ⟨Nat.zero_le _,fun i s h=>by omega⟩ fun k hJ=>?_
   have hJ1:=hJ.1
   have hsl:ss.length≤1000:=by have h1:=hp9.length_eq;simp only[List.length_map] at h1;omega
   refine Sq<|Rg<|Lv Cm<|Nl<|Ps<|Sq ?_
   refine CW.cond rfl (fun h35=>?_) (fun h35=>?_)
   ·replace h35:=bT h35
    obtain⟨⟨g,rest,capl⟩,rfl⟩:=own_some2 hok (by omega)
    obtain⟨s,hs1⟩:∃s,ss[k]? =some s:=⟨ss[k]'(by omega),by simp⟩
    obtain⟨y,hy1,hy2⟩:∃y∈p.1.map (·.2),y.key=s:=by
     obtain⟨y,h8,h9⟩:=List.mem_map.1 (hp9.subset (List.mem_of_getElem? hs1))
     exact⟨y,h8,h9⟩
    have hy3:mget (me p.1) ⟨s.toArray⟩=some (lkW y):=by
     have h8:=mget_me s p.1
     rw[← hy2,lget_mem hnd hy1] at h8
     rw[← hy2];exact h8
    refine Sk<|Ps<|Sq<|Bk<|Sq<|Rg<|Lv (Val.indexAddrN (i:=k) rfl rfl Tryz.underlying23 Tryz.sizeOf9 (by omega)) ?_
    refine LW.v rfl rfl (Val.load (l:=ss.map str++rest) (v:=str s) rfl Tryz.isAgg9 (show InS (g,.cells (ss.map str++rest).toArray 9 (0,0)) _ from(by repeat(first|exact .here|exact .inner .here|exact .inner (.inner .here)|refine .there ?_))) (by rw[Nat.zero_add,Nat.mul_one,List.getElem?_append_left (by simpa using(List.getElem?_eq_some_iff.1 hs1).1)];simp[hs1])) ?_
    refine Lv Av<|Nl<|Ps<|Sq<|Rg<|Lv Mv<|Lv Nt<|Lv Mv ?_
    refine LW.split (d:=40) rfl (fun h40=>?_) (fun h40=>?_)
    ·replace h40:=bT h40
     refine Lp<|Lp<|Lp<|Lv Pt<|Nl<|Ps<|Ct<|Sq<|Rg<|Lv Mv<|Lv Mv<|Lv (Val.lookup1 (k:=⟨s.toArray⟩) rfl rfl Tryz.underlying267 Tryz.underlying9 Tryz.zeroValue94 (by repeat(first|exact InS.nth (tbM_at hm hp)|refine .there ?_)))<|LW.re 47 (.agg (lkC y).toArray) rfl (by rw[hy3];rfl)<|LeN StW fun _ _=>Lv Av<|Nl<|Ps<|Rt<|Br<|Tr<|Tr<|Br<|Tr<|PQ.retCT rfl rfl rfl (by repeat(first|exact .here|exact .inner .here|exact .inner (.inner .here)|refine .there ?_)) Tryz.isAgg94 (by exact Tryz.sizeOf94) ?_
     have e1:tNext Tz (nb:Nat) pos past=some y:=by
      unfold tNext
      rw[hbl]
      refine minL_is (nd_filter _ hnd) (List.mem_filter.2 ⟨hy1,by first|(rw[hy2];simp[h43];done)|(simp[h40];done)|(rw[hy2];simp_all)⟩) fun z hz=>?_
      obtain⟨hz1,hz2⟩:=List.mem_filter.1 hz
      have h1:z.key∈ss:=hp9.symm.subset (List.mem_map_of_mem hz1)
      obtain⟨i,hi⟩:=List.mem_iff_getElem?.1 h1
      have hil:=(List.getElem?_eq_some_iff.1 hi).1
      rcases Nat.lt_trichotomy i k with h2|h2|h2
      ·have h3:=hJ.2 i _ h2 hi
       rw[h3.1] at hz2
       simp only[Bool.not_true,Bool.false_or,decide_eq_true_eq] at hz2
       exact absurd hz2 h3.2
      ·subst h2;rw[hs1] at hi;rw[hy2,Option.some.inj hi];exact List.le_refl _
      ·have h3:=List.pairwise_iff_getElem.1 hu k i (by omega) hil h2
       rw[(List.getElem?_eq_some_iff.1 hs1).2,(List.getElem?_eq_some_iff.1 hi).2] at h3
       rw[hy2];exact List.le_of_lt h3
     rw[e1]
     intro w' hw;exact⟨rfl,hw.ro (by repeat(first|exact .nil|apply Pick.cons|exact .here|apply Ext.there)) hs⟩
    ·replace h40:=bF h40
     refine Lv Mv<|Lv Mv<|Lv (Val.gtStr rfl rfl)<|LW.re 43 (.bool (decide (pos<s))) rfl (by first|rfl|rw[lt_dec]|(congr 1;exact lt_dec _ _))<|Lv Pf<|Nl<|Ps ?_
     refine CW.cond rfl (fun h44=>?_) (fun h44=>?_)
     ·replace h44:=bT h44
      refine Sq<|Rg<|Lv Mv<|Lv Mv<|Lv (Val.lookup1 (k:=⟨s.toArray⟩) rfl rfl Tryz.underlying267 Tryz.underlying9 Tryz.zeroValue94 (by repeat(first|exact InS.nth (tbM_at hm hp)|refine .there ?_)))<|LW.re 47 (.agg (lkC y).toArray) rfl (by rw[hy3];rfl)<|LeN StW fun _ _=>Lv Av<|Nl<|Ps<|Rt<|Br<|Tr<|Tr<|Br<|Tr<|PQ.retCT rfl rfl rfl (by repeat(first|exact .here|exact .inner .here|exact .inner (.inner .here)|refine .there ?_)) Tryz.isAgg94 (by exact Tryz.sizeOf94) ?_
      have e1:tNext Tz (nb:Nat) pos past=some y:=by
       unfold tNext
       rw[hbl]
       refine minL_is (nd_filter _ hnd) (List.mem_filter.2 ⟨hy1,by first|(rw[hy2];simp[h43];done)|(simp[h40];done)|(rw[hy2];simp_all)⟩) fun z hz=>?_
       obtain⟨hz1,hz2⟩:=List.mem_filter.1 hz
       have h1:z.key∈ss:=hp9.symm.subset (List.mem_map_of_mem hz1)
       obtain⟨i,hi⟩:=List.mem_iff_getElem?.1 h1
       have hil:=(List.getElem?_eq_some_iff.1 hi).1
       rcases Nat.lt_trichotomy i k with h2|h2|h2
       ·have h3:=hJ.2 i _ h2 hi
        rw[h3.1] at hz2
        simp only[Bool.not_true,Bool.false_or,decide_eq_true_eq] at hz2
        exact absurd hz2 h3.2
       ·subst h2;rw[hs1] at hi;rw[hy2,Option.some.inj hi];exact List.le_refl _
       ·have h3:=List.pairwise_iff_getElem.1 hu k i (by omega) hil h2
        rw[(List.getElem?_eq_some_iff.1 hs1).2,(List.getElem?_eq_some_iff.1 hi).2] at h3
        rw[hy2];exact List.le_of_lt h3
      rw[e1]
      intro w' hw;exact⟨rfl,hw.ro (by repeat(first|exact .nil|apply Pick.cons|exact .here|apply Ext.there)) hs⟩
     ·replace h44:=bF h44
      refine Sk<|Bn<|Ps<|Rg<|Lv Ar<|Lv Mv<|Nl ?_
      exact roundA (k+1) ⟨by omega,fun i q hi hq=>by rcases Nat.lt_or_ge i k with h1|h1;exact hJ.2 i q h1 hq;obtain rfl:i=k:=(by omega);rw[hs1] at hq;cases hq;exact⟨by simpa using h40,by simpa using h44⟩⟩ (by omega)
   ·replace h35:=bF h35
    refine Xt<|Te<|Te<|Bh<|Ps<|Sq<|Rg<|Lv (Bd [_,_,_,_,_])<|LeN StW fun _ _=>Lv Av<|Nl<|Ps<|Rt<|PQ.retCT rfl rfl rfl (by repeat(first|exact .here|exact .inner .here|exact .inner (.inner .here)|refine .there ?_)) Tryz.isAgg94 (by exact Tryz.sizeOf94) ?_
    have e1:tNext Tz (nb:Nat) pos past=none:=by
     unfold tNext
     rw[hbl,minL_none,List.filter_eq_nil_iff]
     intro l hl
     have h1:l.key∈ss:=hp9.symm.subset (List.mem_map_of_mem hl)
     obtain⟨i,hi⟩:=List.mem_iff_getElem?.1 h1
     have h2:=hJ.2 i l.key (by have:=(List.getElem?_eq_some_iff.1 hi).1;omega) hi
     simp[h2.1,h2.2]
    rw[e1]
    intro w' hw;exact⟨rfl,hw.ro (by repeat(first|exact .nil|apply Pick.cons|exact .here|apply Ext.there)) hs⟩
instance:Und Tryz.prog 387 (dOf Tryz.underlying387):=⟨Tryz.underlying387⟩
instance:Zer Tryz.prog 387 (zOf Tryz.zeroValue387):=⟨Tryz.zeroValue387⟩
instance:Cal Tryz.prog 347:=⟨Tryz.call347⟩
instance:Cal Tryz.prog 351:=⟨Tryz.call351⟩
instance:Cal Tryz.prog 352:=⟨Tryz.call352⟩
instance:Cal Tryz.prog 353:=⟨Tryz.call353⟩
instance:Cal Tryz.prog 354:=⟨Tryz.call354⟩
instance:Cal Tryz.prog 355:=⟨Tryz.call355⟩
instance:Cal Tryz.prog 356:=⟨Tryz.call356⟩
instance:Cal Tryz.prog 358:=⟨Tryz.call358⟩
structure FrB (f:Frm):Prop where
 g:f.g.length≤3000
 k:f.c.key.length≤3000∧f.c.val.length≤3000
 b:f.bs.length≤900
 pc:0≤f.pc∧f.pc≤900
 ol: -1000000≤f.old.line∧f.old.line≤1000000
 ln: -1000000≤f.line∧f.line≤1000000
def pEnterF (a:AS)(t:Int)(f:Frm):Frm:=if enterE a t f=0 then {enterF a t f with ph:=1} else enterF a t f
def pTakeF (a:AS)(f:Frm):Frm:=if takeE a (sizeK f.c)=0 then {f with cls:=takeC (sizeK f.c),line:=takeLn a (sizeK f.c),pc:=0,ph:=4} else failF {f with cls:=takeC (sizeK f.c)} (takeE a (sizeK f.c))
def pWriteV (v:Dev)(f:Frm):Dev:=writeD v f.c f.line f.cls f.pc
def pWriteF (f:Frm):Frm:=if f.pc+1=(spanF f.cls:Nat) then {f with pc:=0,ph:=5} else {f with pc:=f.pc+1}
def pReadF (f:Frm)(v:Dev)(kind:Int):Frm:=if readB f=true then(if fvK (readF f v).bs f.old kind=true then {readF f v with bs:=[],an:={f.an with fd:=true,val:=(fvB (readF f v).bs).val},ph:=6} else failF {readF f v with bs:=[]} 6) else readF f v
theorem FrOk.same {f g:Frm}{o:FrO}(h:FrOk f o)(h1:g.g=f.g)(h2:g.bs=f.bs)(h3:g.pa=f.pa)(h4:g.an.ps=f.an.ps)(h5:g.an.hs=f.an.hs):FrOk g o:=
 ⟨by rw[h1];exact h.gz,h.go,by rw[h2];exact h.bo,by rw[h3];exact h.po,by rw[h4];exact h.so,by rw[h5];exact h.ho⟩
theorem enterF_ok {f:Frm}{o:FrO}(h:FrOk f o)(a:AS)(t:Int){p:Int}:FrOk {enterF a t f with ph:=p} o:=by
 unfold enterF
 split<;>exact h.same rfl rfl rfl rfl rfl
theorem enterF_ok2 {f:Frm}{o:FrO}(h:FrOk f o)(a:AS)(t:Int):FrOk (enterF a t f) o:=by
 unfold enterF
 split<;>exact h.same rfl rfl rfl rfl rfl
theorem penter_g (wb:Nat)(T:TypeId)(x:ArR)(t:Int)(f:Frm)(o:FrO)(s:ArS)(xd:DvR)(v:Dev)(th n:Nat)(a:AS)(hG:ArG th n x s a)(hF:FrOk f o)(hB:FrB f)(hck:a.ck.Ok th)(w:World)(hs:Sat (wsS wb T x t f o s xd v) w):Calls Tryz.prog 291 [.pointer (some ⟨wb,0,none⟩)].toArray w fun e w'=>∃z:ArS×FrO,(ArG th n x z.1 (enterA a t f)∧FrOk (pEnterF a t f) z.2)∧e= .returned (.tuple #[])∧Hp ⟨w,V.ids ((wsS wb T x t f o s xd v))⟩ ((wsS wb T x t (pEnterF a t f) z.2 z.1 xd (v))) w':=by
 refine V.calls (wsS wb T x t f o s xd v) Tryz.func291 rfl Tryz.ntmps291 (Nat.le_of_ble_eq_true rfl) hs<|Sq<|Dr ([])<|Rv 0 rfl Mv<|Rv 1 rfl Nz<|Rv 2 rfl (Fa 0 81)<|Rv 4 rfl Mv<|Rv 5 rfl Nz<|Rv 6 rfl (Fa 1 3)<|Rv 8 rfl Mv<|Rv 9 rfl Nz<|Rv 10 rfl (Fa 2 101)<|RW.batch [(3,5,_),(7,9,_)] 1 rfl (by kernel_rfl) rfl rfl (by simp) (by simp) ⟨⟨_,rfl,rfl,rfl,Eff.ofVal (Ld (v:= .pointer (some ⟨x.a,0,none⟩)))⟩,⟨_,rfl,rfl,rfl,Eff.ofVal (Ld (v:= .int .i64 t))⟩,trivial⟩ ⟨_,(by repeat(first|exact .nil|apply Pick.cons|exact .here|apply Ext.there))⟩<|Re 11 rfl (CM ((wsS wb T x t f o s xd v)) fun w hw hs0=>fenter_g wb T x t f o s xd v th n a hG hF hB.g hck w hs0) fun s2 hG2=>Rd<|Ps ?_
 refine CW.cond rfl (fun h13=>?_) (fun h13=>?_)
 ·replace h13:=bT h13
  have h13:enterE a t f=0:=h13
  refine Rg<|Lv Mv<|Lv Nz<|Lv (Fa 2 101)<|Lv (Fa 5 3)<|LeN (Eff.storeX (v:= .int .i64 1) (l:=wkC x t (enterF a t f) (o)) (l':=wkC x t ({enterF a t f with ph:=1}) (o)) rfl rfl rfl (by repeat(first|exact .here|exact .inner .here|exact .inner (.inner .here)|apply Upd.there)) (by rfl) (by show 7<30;omega) Tryz.sizeOf3) fun _ _=>Nl<|PQ.end0 rfl ?_
  have e1:pEnterF a t f={enterF a t f with ph:=1}:=if_pos h13
  rw[e1]
  intro w' hw;exact⟨(s2,o),⟨hG2,enterF_ok hF a t⟩,rfl,hw.pick (by repeat(first|exact .nil|apply Pick.cons|exact .here|apply Ext.there))⟩
 ·replace h13:=bF h13
  have h13:¬enterE a t f=0:=h13
  refine Sk<|PQ.end0 rfl ?_
  have e1:pEnterF a t f=enterF a t f:=if_neg h13
  rw[e1]
  intro w' hw;exact⟨(s2,o),⟨hG2,enterF_ok2 hF a t⟩,rfl,hw.pick (by repeat(first|exact .nil|apply Pick.cons|exact .here|apply Ext.there))⟩
theorem ptakes_g (wb:Nat)(T:TypeId)(x:ArR)(t:Int)(f:Frm)(o:FrO)(s:ArS)(xd:DvR)(v:Dev)(th n:Nat)(a:AS)(hG:ArG th n x s a)(hF:FrOk f o)(hB:FrB f)(w:World)(hs:Sat (wsS wb T x t f o s xd v) w):Calls Tryz.prog 294 [.pointer (some ⟨wb,0,none⟩)].toArray w fun e w'=>∃z:ArS×FrO,(ArG th n x z.1 (takeA a (sizeK f.c))∧FrOk (pTakeF a f) z.2)∧e= .returned (.tuple #[])∧Hp ⟨w,V.ids ((wsS wb T x t f o s xd v))⟩ ((wsS wb T x t (pTakeF a f) z.2 z.1 xd (v))) w':=by
 have hk8:=hB.k
 have hz8: -100000≤(sizeK f.c)∧(sizeK f.c)≤100000:=by unfold sizeK;split;omega;split<;>omega
 refine V.calls (wsS wb T x t f o s xd v) Tryz.func294 rfl Tryz.ntmps294 (Nat.le_of_ble_eq_true rfl) hs<|Sq<|Dr ([[(wb,.cells (wkC x t (f) (o)).toArray T (0,0))]])<|Rv 0 rfl Mv<|Rv 1 rfl Nz<|Rv 2 rfl (Fa 0 81)<|Rv 3 rfl (Ld (v:= .pointer (some ⟨x.a,0,none⟩)))<|Rv 4 rfl Mv<|Rv 5 rfl Nz<|Rv 6 rfl (Fa 2 101)<|Rv 7 rfl (Fa 0 91)<|Rv 8 rfl (La (klC f.c (ownV f.g.length o.go)) (hl:=rfl))<|Re 9 rfl (CV fun w hw=>fsize_g f.c (ownV f.g.length o.go) (V.ownV_one _ _) (by omega) w) fun _ _=>Re 10 rfl (CM ((arS x s xd.db)) fun w hw hs0=>ftake_g x s xd.db th n a hG (sizeK f.c) hz8 w hs0) fun s2 hG2=>Rv 11 rfl Mv<|Rv 12 rfl Ex<|Rv 13 rfl Ex<|Rv 14 rfl Ex<|Rv 15 rfl Av<|Rv 16 rfl Av<|Rv 17 rfl Av<|Rd<|Ps<|Sq<|Rg<|Lv Mv<|Lv Mv<|Lv Nz<|Lv (Fa 2 101)<|Lv (Fa 17 3)<|LeN (Eff.storeX (v:= .int .i64 (takeC (sizeK f.c))) (l:=wkC x t (f) (o)) (l':=wkC x t ({f with cls:=takeC (sizeK f.c)}) (o)) rfl rfl rfl (by repeat(first|exact .here|exact .inner .here|exact .inner (.inner .here)|apply Upd.there)) (by rfl) (by show 19<30;omega) Tryz.sizeOf3) fun _ _=>Nl<|Ps<|Sq<|Sq<|Rg<|Lv Mv<|Lv Cm<|Nl<|Ps ?_
 refine CW.cond rfl (fun h26=>?_) (fun h26=>?_)
 ·replace h26:=bT h26
  have h26:¬takeE a (sizeK f.c)=0:=h26
  refine Sq<|Rg<|Lv Mv<|Lv Nz<|Lv (Fa 2 101)<|Lv Mv<|Le (CM ([[(wb,.cells (wkC x t ({f with cls:=takeC (sizeK f.c)}) (o)).toArray T (0,0))]]) fun w hw hs0=>ffail_g wb T x t ({f with cls:=takeC (sizeK f.c)}) o (takeE a (sizeK f.c)) w hs0) fun _ _=>Nl<|Ps<|Rt<|Tr<|PQ.ret0 rfl ?_
  have e1:pTakeF a f=failF {f with cls:=takeC (sizeK f.c)} (takeE a (sizeK f.c)):=if_neg h26
  rw[e1]
  intro w' hw;exact⟨(s2,o),⟨hG2,hF.same rfl rfl rfl rfl rfl⟩,rfl,hw.pick (by repeat(first|exact .nil|apply Pick.cons|exact .here|apply Ext.there))⟩
 ·replace h26:=bF h26
  have h26:takeE a (sizeK f.c)=0:=by simpa using h26
  refine Sk<|Ps<|Rg<|Lv Mv<|Lv Mv<|Lv Mv<|Lv Mv<|Lv Nz<|Lv (Fa 2 101)<|Lv (Fa 16 3)<|LeN (Eff.storeX (v:= .int .i64 (takeLn a (sizeK f.c))) (l:=wkC x t ({f with cls:=takeC (sizeK f.c)}) (o)) (l':=wkC x t ({f with cls:=takeC (sizeK f.c),line:=takeLn a (sizeK f.c)}) (o)) rfl rfl rfl (by repeat(first|exact .here|exact .inner .here|exact .inner (.inner .here)|apply Upd.there)) (by rfl) (by show 18<30;omega) Tryz.sizeOf3) fun _ _=>Lv Nz<|Lv (Fa 2 101)<|Lv (Fa 18 3)<|LeN (Eff.storeX (v:= .int .i64 0) (l:=wkC x t ({f with cls:=takeC (sizeK f.c),line:=takeLn a (sizeK f.c)}) (o)) (l':=wkC x t ({f with cls:=takeC (sizeK f.c),line:=takeLn a (sizeK f.c),pc:=0}) (o)) rfl rfl rfl (by repeat(first|exact .here|exact .inner .here|exact .inner (.inner .here)|apply Upd.there)) (by rfl) (by show 20<30;omega) Tryz.sizeOf3) fun _ _=>Lv Nz<|Lv (Fa 2 101)<|Lv (Fa 5 3)<|LeN (Eff.storeX (v:= .int .i64 4) (l:=wkC x t ({f with cls:=takeC (sizeK f.c),line:=takeLn a (sizeK f.c),pc:=0}) (o)) (l':=wkC x t ({f with cls:=takeC (sizeK f.c),line:=takeLn a (sizeK f.c),pc:=0,ph:=4}) (o)) rfl rfl rfl (by repeat(first|exact .here|exact .inner .here|exact .inner (.inner .here)|apply Upd.there)) (by rfl) (by show 7<30;omega) Tryz.sizeOf3) fun _ _=>Nl<|PQ.end0 rfl ?_
  have e1:pTakeF a f={f with cls:=takeC (sizeK f.c),line:=takeLn a (sizeK f.c),pc:=0,ph:=4}:=if_pos h26
  rw[e1]
  intro w' hw;exact⟨(s2,o),⟨hG2,hF.same rfl rfl rfl rfl rfl⟩,rfl,hw.pick (by repeat(first|exact .nil|apply Pick.cons|exact .here|apply Ext.there))⟩
theorem pwrite_g (wb:Nat)(T:TypeId)(x:ArR)(t:Int)(f:Frm)(o:FrO)(s:ArS)(xd:DvR)(v:Dev)(th n:Nat)(a:AS)(hG:ArG th n x s a)(hF:FrOk f o)(hB:FrB f)(w:World)(hs:Sat (wsS wb T x t f o s xd v) w):Calls Tryz.prog 295 [.pointer (some ⟨wb,0,none⟩)].toArray w fun e w'=>∃z:ArS×FrO,(ArG th n x z.1 (a)∧FrOk (pWriteF f) z.2)∧e= .returned (.tuple #[])∧Hp ⟨w,V.ids ((wsS wb T x t f o s xd v))⟩ ((wsS wb T x t (pWriteF f) z.2 z.1 xd (pWriteV v f))) w':=by
 have hk8:=hB.k
 have hp8:=hB.pc
 refine V.calls (wsS wb T x t f o s xd v) Tryz.func295 rfl Tryz.ntmps295 (Nat.le_of_ble_eq_true rfl) hs<|Sq<|Rg<|Lv Mv<|Lv Nz<|Lv (Fa 2 101)<|Lv Av<|Nl<|Ps<|Sq<|Dr ([[(wb,.cells (wkC x t (f) (o)).toArray T (0,0))]])<|Rv 0 rfl Mv<|Rv 1 rfl Nz<|Rv 2 rfl (Fa 0 81)<|Rv 3 rfl (Ld (v:= .pointer (some ⟨x.a,0,none⟩)))<|Rv 4 rfl Mv<|Rv 5 rfl Nz<|Rv 6 rfl (Fa 0 91)<|Rv 7 rfl (La (klC f.c (ownV f.g.length o.go)) (hl:=rfl))<|Rv 8 rfl Mv<|Rv 9 rfl Nz<|Rv 10 rfl (Fa 16 3)<|Rv 11 rfl (Ld (v:= .int .i64 f.line))<|Rv 12 rfl Mv<|Rv 13 rfl Nz<|Rv 14 rfl (Fa 17 3)<|Rv 15 rfl (Ld (v:= .int .i64 f.cls))<|Rv 16 rfl Mv<|Rv 17 rfl Nz<|Rv 18 rfl (Fa 18 3)<|Rv 19 rfl (Ld (v:= .int .i64 f.pc))<|Re 20 rfl (CM ((arS x s xd.db++vS xd v)) fun w hw hs0=>fwrite_g x s xd v f.c (ownV f.g.length o.go) (V.ownV_one _ _) (by omega) f.line f.cls f.pc (by omega) hB.ln w hs0) fun _ _=>Rv 21 rfl Av<|Rd<|Ps<|Sq<|Rg<|Lv Mv<|Lv Nz<|Lv (Fa 18 3)<|Lv (Ld (v:= .int .i64 f.pc))<|Lv Ar<|Lv Nz<|Lv (Fa 18 3)<|LeN (Eff.storeX (v:= .int .i64 (f.pc+1)) (l:=wkC x t (f) (o)) (l':=wkC x t ({f with pc:=f.pc+1}) (o)) rfl rfl rfl (by repeat(first|exact .here|exact .inner .here|exact .inner (.inner .here)|apply Upd.there)) (by rfl) (by show 20<30;omega) Tryz.sizeOf3) fun _ _=>Nl<|Ps<|Sq<|Rg<|Lv Mv<|Nl<|Ps ?_
 refine CW.cond rfl (fun h35=>?_) (fun h35=>?_)
 ·replace h35:=bT h35
  have h35:f.pc+1=(spanF f.cls:Nat):=h35
  refine Rg<|Lv Mv<|Lv Mv<|Lv Nz<|Lv (Fa 18 3)<|LeN (Eff.storeX (v:= .int .i64 0) (l:=wkC x t ({f with pc:=f.pc+1}) (o)) (l':=wkC x t ({f with pc:=0}) (o)) rfl rfl rfl (by repeat(first|exact .here|exact .inner .here|exact .inner (.inner .here)|apply Upd.there)) (by rfl) (by show 20<30;omega) Tryz.sizeOf3) fun _ _=>Lv Nz<|Lv (Fa 5 3)<|LeN (Eff.storeX (v:= .int .i64 5) (l:=wkC x t ({f with pc:=0}) (o)) (l':=wkC x t ({f with pc:=0,ph:=5}) (o)) rfl rfl rfl (by repeat(first|exact .here|exact .inner .here|exact .inner (.inner .here)|apply Upd.there)) (by rfl) (by show 7<30;omega) Tryz.sizeOf3) fun _ _=>Nl<|PQ.end0 rfl ?_
  have e1:pWriteF f={f with pc:=0,ph:=5}:=if_pos h35
  rw[e1]
  intro w' hw;exact⟨(s,o),⟨hG,hF.same rfl rfl rfl rfl rfl⟩,rfl,hw.pick (by repeat(first|exact .nil|apply Pick.cons|exact .here|apply Ext.there))⟩
 ·replace h35:=bF h35
  have h35:¬f.pc+1=(spanF f.cls:Nat):=h35
  refine Sk<|PQ.end0 rfl ?_
  have e1:pWriteF f={f with pc:=f.pc+1}:=if_neg h35
  rw[e1]
  intro w' hw;exact⟨(s,o),⟨hG,hF.same rfl rfl rfl rfl rfl⟩,rfl,hw.pick (by repeat(first|exact .nil|apply Pick.cons|exact .here|apply Ext.there))⟩
theorem pleave_g (wb:Nat)(T:TypeId)(x:ArR)(t:Int)(f:Frm)(o:FrO)(s:ArS)(xd:DvR)(v:Dev)(th n:Nat)(a:AS)(hG:ArG th n x s a)(hF:FrOk f o)(hB:FrB f)(w:World)(hs:Sat (wsS wb T x t f o s xd v) w):Calls Tryz.prog 297 [.pointer (some ⟨wb,0,none⟩)].toArray w fun e w'=>∃z:ArS×FrO,(ArG th n x z.1 (leaveA a t)∧FrOk (leaveF f) z.2)∧e= .returned (.tuple #[])∧Hp ⟨w,V.ids ((wsS wb T x t f o s xd v))⟩ ((wsS wb T x t (leaveF f) z.2 z.1 xd (v))) w':=by
 refine V.calls (wsS wb T x t f o s xd v) Tryz.func297 rfl Tryz.ntmps297 (Nat.le_of_ble_eq_true rfl) hs<|Dr ([])<|Rv 0 rfl Mv<|Rv 1 rfl Nz<|Rv 2 rfl (Fa 0 81)<|Rv 4 rfl Mv<|Rv 5 rfl Nz<|Rv 6 rfl (Fa 1 3)<|Rv 8 rfl Mv<|Rv 9 rfl Nz<|Rv 10 rfl (Fa 2 101)<|RW.batch [(3,5,_),(7,9,_)] 1 rfl (by kernel_rfl) rfl rfl (by simp) (by simp) ⟨⟨_,rfl,rfl,rfl,Eff.ofVal (Ld (v:= .pointer (some ⟨x.a,0,none⟩)))⟩,⟨_,rfl,rfl,rfl,Eff.ofVal (Ld (v:= .int .i64 t))⟩,trivial⟩ ⟨_,(by repeat(first|exact .nil|apply Pick.cons|exact .here|apply Ext.there))⟩<|Re 11 rfl (CM ((wsS wb T x t f o s xd v)) fun w hw hs0=>fleave_g wb T x t f o s xd v th n a hG hF w hs0) fun s2 hG2=>Rd<|PQ.end0 rfl ?_
 intro w' hw;exact⟨(s2,o),⟨hG2,hF.same rfl rfl rfl rfl rfl⟩,rfl,hw.pick (by repeat(first|exact .nil|apply Pick.cons|exact .here|apply Ext.there))⟩
theorem pread_g (wb:Nat)(T:TypeId)(x:ArR)(t:Int)(f:Frm)(o:FrO)(s:ArS)(xd:DvR)(v:Dev)(th n:Nat)(a:AS)(hG:ArG th n x s a)(hF:FrOk f o)(hB:FrB f)(w:World)(hs:Sat (wsS wb T x t f o s xd v) w):Calls Tryz.prog 293 [.pointer (some ⟨wb,0,none⟩)].toArray w fun e w'=>∃z:ArS×FrO,(ArG th n x z.1 (a)∧FrOk (pReadF f v 1) z.2)∧e= .returned (.tuple #[])∧Hp ⟨w,V.ids ((wsS wb T x t f o s xd v))⟩ ((wsS wb T x t (pReadF f v 1) z.2 z.1 xd (v))) w':=by
 refine V.calls (wsS wb T x t f o s xd v) Tryz.func293 rfl Tryz.ntmps293 (Nat.le_of_ble_eq_true rfl) hs<|Sq<|Rg<|Lv Mv<|Lv Nz<|Lv (Fa 2 101)<|Lv Av<|Nl<|Ps<|Sq<|Sq<|Rg<|Lv Mv<|Lv Nz<|Lv (Fa 0 81)<|Lv (Ld (v:= .pointer (some ⟨x.a,0,none⟩)))<|Lv Mv<|Le (CM ((wsS wb T x t f o s xd v)) fun w hw hs0=>fread_g wb T x t f o s xd v hF (by have:=hB.b;omega) (by have:=hB.pc;omega) hB.ol w hs0) fun o2 ho2=>?_
 have hR:FrOk (readF f v) {o with bo:=o2}:=⟨hF.gz,hF.go,ho2,hF.po,hF.so,hF.ho⟩
 have hZ:FrOk {readF f v with bs:=[]} {o with bo:=none}:=⟨hF.gz,hF.go,⟨rfl,rfl⟩,hF.po,hF.so,hF.ho⟩
 refine Lv Nt<|Nl<|Ps ?_
 refine CW.cond rfl (fun h14=>?_) (fun h14=>?_)
 ·replace h14:=bT h14
  refine Rt<|Tr<|PQ.ret0 rfl ?_
  have e1:pReadF f v 1=readF f v:=if_neg (by simpa using h14)
  rw[e1]
  intro w' hw;exact⟨(s,{o with bo:=o2}),⟨hG,hR⟩,rfl,hw.pick (by repeat(first|exact .nil|apply Pick.cons|exact .here|apply Ext.there))⟩
 ·replace h14:=bF h14
  have hr:readB f=true:=by simpa using h14
  refine Sk<|Ps<|Sq<|Rg<|Lv Mv<|Le (CM (([(wb,.cells (wkC x t (readF f v) ({o with bo:=o2})).toArray T (0,0))]::frS (readF f v) ({o with bo:=o2}))) fun w hw hs0=>fvalue_g wb T x t (readF f v) {o with bo:=o2} hR (by show(f.bs++readL f v).length≤1000;have:=hB.b;have:=nowL_le v.D (f.old.line+f.pc);rw[List.length_append];unfold readL;omega) 1 w hs0) fun _ _=>Lv Mv<|Lv Ex<|Lv Ex<|Lv Av<|Lv Av<|Nl<|Ps<|Sq<|Sq<|Rg<|Lv Mv<|Lv Nt<|Nl<|Ps ?_
  refine CW.cond rfl (fun h21=>?_) (fun h21=>?_)
  ·replace h21:=bT h21
   have h21:¬fvK (readF f v).bs f.old 1=true:=(show ¬fvK (readF f v).bs (readF f v).old 1=true by simpa using h21)
   refine Sq<|Rg<|Lv Mv<|Le (CM ([[(wb,.cells (wkC x t ({readF f v with bs:=[]}) ({o with bo:=none})).toArray T (0,0))]]) fun w hw hs0=>ffail_g wb T x t ({readF f v with bs:=[]}) {o with bo:=none} 6 w hs0) fun _ _=>Nl<|Ps<|Rt<|Tr<|PQ.ret0 rfl ?_
   have e1:pReadF f v 1=failF {readF f v with bs:=[]} 6:=(if_pos hr).trans (if_neg h21)
   rw[e1]
   intro w' hw;exact⟨(s,{o with bo:=none}),⟨hG,hZ.same rfl rfl rfl rfl rfl⟩,rfl,hw.pick (by repeat(first|exact .nil|apply Pick.cons|exact .here|apply Ext.there))⟩
  ·replace h21:=bF h21
   have h21:fvK (readF f v).bs f.old 1=true:=(show fvK (readF f v).bs (readF f v).old 1=true by simpa using h21)
   refine Sk<|Ps<|Rg<|Lv Mv<|Lv Mv<|Lv Mv<|Lv Mv<|Lv Nz<|Lv (Fa 22 99)<|Lv (Fa 1 4)<|LeN (Eff.storeX (v:= .bool true) (l:=wkC x t ({readF f v with bs:=[]}) ({o with bo:=none})) (l':=wkC x t ({readF f v with bs:=[],an:={f.an with fd:=true}}) ({o with bo:=none})) rfl rfl rfl (by repeat(first|exact .here|exact .inner .here|exact .inner (.inner .here)|apply Upd.there)) (by rfl) (by show 25<30;omega) Tryz.sizeOf4) fun _ _=>Lv Nz<|Lv (Fa 22 99)<|Lv (Fa 2 9)<|LeN (Eff.storeX (v:=str (fvB (readF f v).bs).val) (l:=wkC x t ({readF f v with bs:=[],an:={f.an with fd:=true}}) ({o with bo:=none})) (l':=wkC x t ({readF f v with bs:=[],an:={f.an with fd:=true,val:=(fvB (readF f v).bs).val}}) ({o with bo:=none})) rfl rfl rfl (by repeat(first|exact .here|exact .inner .here|exact .inner (.inner .here)|apply Upd.there)) (by rfl) (by show 26<30;omega) Tryz.sizeOf9) fun _ _=>Lv Nz<|Lv (Fa 5 3)<|LeN (Eff.storeX (v:= .int .i64 6) (l:=wkC x t ({readF f v with bs:=[],an:={f.an with fd:=true,val:=(fvB (readF f v).bs).val}}) ({o with bo:=none})) (l':=wkC x t ({readF f v with bs:=[],an:={f.an with fd:=true,val:=(fvB (readF f v).bs).val},ph:=6}) ({o with bo:=none})) rfl rfl rfl (by repeat(first|exact .here|exact .inner .here|exact .inner (.inner .here)|apply Upd.there)) (by rfl) (by show 7<30;omega) Tryz.sizeOf3) fun _ _=>Nl<|PQ.end0 rfl ?_
   have e1:pReadF f v 1={readF f v with bs:=[],an:={f.an with fd:=true,val:=(fvB (readF f v).bs).val},ph:=6}:=(if_pos hr).trans (if_pos h21)
   rw[e1]
   intro w' hw;exact⟨(s,{o with bo:=none}),⟨hG,hZ.same rfl rfl rfl rfl rfl⟩,rfl,hw.pick (by repeat(first|exact .nil|apply Pick.cons|exact .here|apply Ext.there))⟩
instance:Cal Tryz.prog 348:=⟨Tryz.call348⟩
instance:Cal Tryz.prog 350:=⟨Tryz.call350⟩
def fnX (a:AS)(f:Frm):Option Lk:=tNext a.Tz (bkF f.c.key:Nat) f.pos f.past
def fnY (a:AS)(f:Frm):Lk:=(fnX a f).getD lk0
def fnGo (a:AS)(f:Frm):Bool:=(fnX a f).isSome&&decide ((fnY a f).key<f.c.key)
def fnHad (a:AS)(f:Frm):Bool:=(fnX a f).isSome&&decide ((fnY a f).key=f.c.key)
def fnF (a:AS)(f:Frm):Frm:=if fnHad a f=true then {f with had:=true,old:=fnY a f} else {f with had:=false,old:=lk0}
def pFindB (f:Frm)(had:Bool):Bool:=decide (f.c.k≠1)&&(decide (f.c.k=3)&& !had)&&decide (0≤f.line)
def pFindA (a:AS)(f:Frm):AS:=if fnGo a f=true then a else if pFindB f (fnHad a f)=true then gbA a (fnF a f) else a
def pFindG (g:Frm)(had:Bool):Frm:=if g.c.k=1 then(if had=true then {g with ph:=2,pc:=0,bs:=[]} else {g with ph:=6}) else if g.c.k=3∧had=false then(if 0≤g.line then {gbF g with ph:=6} else {g with ph:=6}) else if g.line<0 then {g with ph:=3} else {g with ph:=5}
def pFindF (a:AS)(f:Frm):Frm:=if fnGo a f=true then {f with pos:=(fnY a f).key,past:=true} else pFindG (fnF a f) (fnHad a f)
theorem fnF_c (a:AS)(f:Frm):(fnF a f).c=f.c∧(fnF a f).line=f.line∧(fnF a f).had=fnHad a f:=by
 unfold fnF
 cases h:fnHad a f
 ·rw[if_neg (by decide)];exact⟨rfl,rfl,rfl⟩
 ·rw[if_pos rfl];exact⟨rfl,rfl,rfl⟩
theorem fnF_ok {f:Frm}{o:FrO}(h:FrOk f o)(a:AS):FrOk (fnF a f) o:=by
 unfold fnF
 split<;>exact h.same rfl rfl rfl rfl rfl
theorem pfind_g (wb:Nat)(T:TypeId)(x:ArR)(t:Int)(f:Frm)(o:FrO)(s:ArS)(xd:DvR)(v:Dev)(th n:Nat)(a:AS)(hG:ArG th n x s a)(hF:FrOk f o)(hB:FrB f)(hT:tInv a.Tz)(hTn:(tLinks a.Tz).length≤1000)(hTk:∀l∈tLinks a.Tz,l.key.length≤100000)(w:World)(hs:Sat (wsS wb T x t f o s xd v) w):Calls Tryz.prog 292 [.pointer (some ⟨wb,0,none⟩)].toArray w fun e w'=>∃z:ArS×FrO,(ArG th n x z.1 (pFindA a f)∧FrOk (pFindF a f) z.2)∧e= .returned (.tuple #[])∧Hp ⟨w,V.ids ((wsS wb T x t f o s xd v))⟩ ((wsS wb T x t (pFindF a f) z.2 z.1 xd (v))) w':=by
 have hTz:=hG.is.Tz
 have hk8:=hB.k
 refine V.calls (wsS wb T x t f o s xd v) Tryz.func292 rfl Tryz.ntmps292 (Nat.le_of_ble_eq_true rfl) hs<|Sq<|Rg<|Lv Mv<|Lv Nz<|Lv (Fa 2 101)<|Lv Av<|Nl<|Ps<|Sq ?_
 refine CW.regJoin (fun _:Nat=>True) (fun b3=>[(0,.pointer (some ⟨wb,0,none⟩)),(2,.pointer (some ⟨wb,2,none⟩)),(3,.pointer (some ⟨b3,0,none⟩)),(4,.bool (fnX a f).isSome)]) (fun b3=>[(b3,.cells (lkC (fnY a f)).toArray 94 (0,0))]::wsS wb T x t f o s xd v) ?_ ?_
 ·refine Dr ((wsS wb T x t f o s xd v))<|Rv 0 rfl Mv<|Rv 1 rfl Nz<|Rv 2 rfl (Fa 0 81)<|Rv 3 rfl (Ld (v:= .pointer (some ⟨x.a,0,none⟩)))<|Rv 5 rfl Mv<|Rv 6 rfl Nz<|Rv 7 rfl (Fa 0 91)<|Rv 8 rfl (Fa 1 9)<|Rv 9 rfl (Ld (v:=str f.c.key))<|Rv 11 rfl Mv<|Rv 12 rfl Nz<|Rv 13 rfl (Fa 7 9)<|Rv 14 rfl (Ld (v:=str f.pos))<|Rv 15 rfl Mv<|Rv 16 rfl Nz<|Rv 17 rfl (Fa 8 4)<|Rv 18 rfl (Ld (v:= .bool f.past))<|RW.any [4,23] (by kernel_rfl) (by simp) fun i hi=>?_
  simp only[List.mem_cons,List.not_mem_nil,or_false] at hi
  rcases hi with rfl|rfl
  ·refine Ro rfl (CV fun w hw=>atable_g x s w hw.at) fun _ _=>RW.any [10,23] (by kernel_rfl) (by simp) fun i hi=>?_
   simp only[List.mem_cons,List.not_mem_nil,or_false] at hi
   rcases hi with rfl|rfl
   ·refine Ro rfl (CV fun w hw=>bucket_c f.c.key (by omega) w) fun _ _=>RW.any [19,23] (by kernel_rfl) (by simp) fun i hi=>?_
    simp only[List.mem_cons,List.not_mem_nil,or_false] at hi
    rcases hi with rfl|rfl
    ·refine Ro rfl (CV fun w hw=>tnext_g x.tb x.ms s.Tz hG.ok.tb (by rw[hTz];exact hT) (by rw[hTz];exact hTn) (by rw[hTz];exact hTk) (bkF f.c.key:Nat) f.pos f.past w (hw.sat.pick (ss:=tbS x.tb x.ms s.Tz) (by repeat(first|exact .nil|apply Pick.cons|exact .here|apply Ext.there)))) fun _ _=>RW.re 28 (.tuple #[.agg (lkC (fnY a f)).toArray,.bool (fnX a f).isSome]) rfl (by rw[hTz];rfl)<|Rv 20 rfl Mv<|Rv 21 rfl Ex<|Rv 22 rfl Ex<|Re 23 rfl AA fun b3 _=>ReN 24 rfl (StW (cs:=lkC (fnY a f))) fun _ _=>Rv 25 rfl Av<|Rd ?_
     refine PQ.joined (b3) (trivial) (by exact⟨rfl,rfl,rfl,rfl,trivial⟩) (by repeat(first|exact .nil|apply Pick.cons|exact .here|apply Ext.there))
    ·refine Ro rfl AA fun b3 _=>Re 19 rfl (CV fun w hw=>tnext_g x.tb x.ms s.Tz hG.ok.tb (by rw[hTz];exact hT) (by rw[hTz];exact hTn) (by rw[hTz];exact hTk) (bkF f.c.key:Nat) f.pos f.past w (hw.sat.pick (ss:=tbS x.tb x.ms s.Tz) (by repeat(first|exact .nil|apply Pick.cons|exact .here|apply Ext.there)))) fun _ _=>RW.re 28 (.tuple #[.agg (lkC (fnY a f)).toArray,.bool (fnX a f).isSome]) rfl (by rw[hTz];rfl)<|Rv 20 rfl Mv<|Rv 21 rfl Ex<|Rv 22 rfl Ex<|ReN 24 rfl (StW (cs:=lkC (fnY a f))) fun _ _=>Rv 25 rfl Av<|Rd ?_
     refine PQ.joined (b3) (trivial) (by exact⟨rfl,rfl,rfl,rfl,trivial⟩) (by repeat(first|exact .nil|apply Pick.cons|exact .here|apply Ext.there))
   ·refine Ro rfl AA fun b3 _=>Re 10 rfl (CV fun w hw=>bucket_c f.c.key (by omega) w) fun _ _=>Re 19 rfl (CV fun w hw=>tnext_g x.tb x.ms s.Tz hG.ok.tb (by rw[hTz];exact hT) (by rw[hTz];exact hTn) (by rw[hTz];exact hTk) (bkF f.c.key:Nat) f.pos f.past w (hw.sat.pick (ss:=tbS x.tb x.ms s.Tz) (by repeat(first|exact .nil|apply Pick.cons|exact .here|apply Ext.there)))) fun _ _=>RW.re 28 (.tuple #[.agg (lkC (fnY a f)).toArray,.bool (fnX a f).isSome]) rfl (by rw[hTz];rfl)<|Rv 20 rfl Mv<|Rv 21 rfl Ex<|Rv 22 rfl Ex<|ReN 24 rfl (StW (cs:=lkC (fnY a f))) fun _ _=>Rv 25 rfl Av<|Rd ?_
    refine PQ.joined (b3) (trivial) (by exact⟨rfl,rfl,rfl,rfl,trivial⟩) (by repeat(first|exact .nil|apply Pick.cons|exact .here|apply Ext.there))
  ·refine Ro rfl AA fun b3 _=>Re 4 rfl (CV fun w hw=>atable_g x s w hw.at) fun _ _=>Re 10 rfl (CV fun w hw=>bucket_c f.c.key (by omega) w) fun _ _=>Re 19 rfl (CV fun w hw=>tnext_g x.tb x.ms s.Tz hG.ok.tb (by rw[hTz];exact hT) (by rw[hTz];exact hTn) (by rw[hTz];exact hTk) (bkF f.c.key:Nat) f.pos f.past w (hw.sat.pick (ss:=tbS x.tb x.ms s.Tz) (by repeat(first|exact .nil|apply Pick.cons|exact .here|apply Ext.there)))) fun _ _=>RW.re 28 (.tuple #[.agg (lkC (fnY a f)).toArray,.bool (fnX a f).isSome]) rfl (by rw[hTz];rfl)<|Rv 20 rfl Mv<|Rv 21 rfl Ex<|Rv 22 rfl Ex<|ReN 24 rfl (StW (cs:=lkC (fnY a f))) fun _ _=>Rv 25 rfl Av<|Rd ?_
   refine PQ.joined (b3) (trivial) (by exact⟨rfl,rfl,rfl,rfl,trivial⟩) (by repeat(first|exact .nil|apply Pick.cons|exact .here|apply Ext.there))
 ·intro b3 _
  refine Ps<|Sq ?_
  refine CW.join (fun _:Unit=>fnGo a f=false) (fun _=>[(0,.pointer (some ⟨wb,0,none⟩)),(2,.pointer (some ⟨wb,2,none⟩)),(3,.pointer (some ⟨b3,0,none⟩)),(4,.bool (fnX a f).isSome)]) (fun _=>[(b3,.cells (lkC (fnY a f)).toArray 94 (0,0))]::wsS wb T x t f o s xd v) ?_ ?_
  ·refine Sq ?_
   refine CW.regJoin (fun _:Unit=>True) (fun _=>[(0,.pointer (some ⟨wb,0,none⟩)),(2,.pointer (some ⟨wb,2,none⟩)),(3,.pointer (some ⟨b3,0,none⟩)),(4,.bool (fnX a f).isSome),(41,.bool (fnGo a f))]) (fun _=>[(b3,.cells (lkC (fnY a f)).toArray 94 (0,0))]::wsS wb T x t f o s xd v) ?_ ?_
   ·refine Qt<|Qv Mv<|Qv Mv ?_
    refine QW.split (d:=32) rfl (fun h32=>?_) (fun h32=>?_)
    ·replace h32:=bT h32
     have h32:(fnX a f).isSome=true:=h32
     refine Qv (Fa 0 9)<|Qv (Ld (v:=str (fnY a f).key))<|Qv Mv<|Qv Nz<|Qv (Fa 0 91)<|Qv (Fa 1 9)<|Qv (Ld (v:=str f.c.key))<|Qv (Val.ltStr rfl rfl)<|Qv Pt<|Ql ?_
     refine PQ.joined (()) (trivial) (by exact⟨rfl,rfl,rfl,rfl,congrArg (fun b=>some (Value.bool b)) (by unfold fnGo;rw[h32];rfl),trivial⟩) (by repeat(first|exact .nil|apply Pick.cons|exact .here|apply Ext.there))
    ·replace h32:=bF h32
     have h32:(fnX a f).isSome=false:=h32
     refine Qp<|Qp<|Qp<|Qp<|Qp<|Qp<|Qp<|Qp<|Qv Pf<|Ql ?_
     refine PQ.joined (()) (trivial) (by exact⟨rfl,rfl,rfl,rfl,congrArg (fun b=>some (Value.bool b)) (by unfold fnGo;rw[h32];rfl),trivial⟩) (by repeat(first|exact .nil|apply Pick.cons|exact .here|apply Ext.there))
   ·intro _ _
    refine Ps ?_
    refine CW.cond rfl (fun h41=>?_) (fun h41=>?_)
    ·replace h41:=bT h41
     have h41:fnGo a f=true:=h41
     refine Sq<|Rg<|Lv Mv<|Lv Mv<|Lv (Fa 0 9)<|Lv (Ld (v:=str (fnY a f).key))<|Lv Nz<|Lv (Fa 7 9)<|LeN (Eff.storeX (v:=str (fnY a f).key) (l:=wkC x t (f) (o)) (l':=wkC x t ({f with pos:=(fnY a f).key}) (o)) rfl rfl rfl (by repeat(first|exact .here|exact .inner .here|exact .inner (.inner .here)|apply Upd.there)) (by rfl) (by show 9<30;omega) Tryz.sizeOf9) fun _ _=>Lv Nz<|Lv (Fa 8 4)<|LeN (Eff.storeX (v:= .bool true) (l:=wkC x t ({f with pos:=(fnY a f).key}) (o)) (l':=wkC x t ({f with pos:=(fnY a f).key,past:=true}) (o)) rfl rfl rfl (by repeat(first|exact .here|exact .inner .here|exact .inner (.inner .here)|apply Upd.there)) (by rfl) (by show 10<30;omega) Tryz.sizeOf4) fun _ _=>Nl<|Ps<|Rt<|Tr<|PQ.ret0 rfl ?_
     have e1:pFindF a f={f with pos:=(fnY a f).key,past:=true}:=if_pos h41
     have e2:pFindA a f=a:=if_pos h41
     rw[e1,e2]
     intro w' hw;exact⟨(s,o),⟨hG,hF.same rfl rfl rfl rfl rfl⟩,rfl,hw.pick (by repeat(first|exact .nil|apply Pick.cons|exact .here|apply Ext.there))⟩
    ·replace h41:=bF h41
     have h41:fnGo a f=false:=h41
     refine Sk ?_
     exact joinC (()) (h41)
  ·intro _ hgo
   refine Ps<|Sq<|Rg<|Lv Mv<|Lv Mv<|Lv (Bd [_,_,_,_,_])<|Lv Nz<|Lv (Fa 10 4)<|LeN (Eff.storeX (v:= .bool false) (l:=wkC x t (f) (o)) (l':=wkC x t ({f with had:=false}) (o)) rfl rfl rfl (by repeat(first|exact .here|exact .inner .here|exact .inner (.inner .here)|apply Upd.there)) (by rfl) (by show 12<30;omega) Tryz.sizeOf4) fun _ _=>Lv Nz<|Lv (Fa 11 94)<|LeN (Eff.storeA (cs:=lkC lk0) (l:=wkC x t ({f with had:=false}) o) (l':=wkC x t ({f with had:=false,old:=lk0}) o) rfl rfl (by repeat(first|exact .here|exact .inner .here|exact .inner (.inner .here)|apply Upd.there)) (by rfl) (by simp[wkC,frC,klC,anC,lkC]) Tryz.sizeOf94 (by simp only[lkC,List.all_cons,List.all_nil,oneS,oneI,Bool.and_true])) fun _ _=>Nl<|Ps<|Sq ?_
   refine CW.join (fun g:Frm=>g=fnF a f) (fun _=>[(0,.pointer (some ⟨wb,0,none⟩)),(2,.pointer (some ⟨wb,2,none⟩))]) (fun g=>wsS wb T x t g o s xd v) ?_ ?_
   ·refine Sq ?_
    refine CW.regJoin (fun _:Unit=>True) (fun _=>[(0,.pointer (some ⟨wb,0,none⟩)),(2,.pointer (some ⟨wb,2,none⟩)),(3,.pointer (some ⟨b3,0,none⟩)),(67,.bool (fnHad a f))]) (fun _=>[(b3,.cells (lkC (fnY a f)).toArray 94 (0,0))]::wsS wb T x t ({f with had:=false,old:=lk0}) o s xd v) ?_ ?_
    ·refine Qt<|Qv Mv<|Qv Mv ?_
     refine QW.split (d:=58) rfl (fun h58=>?_) (fun h58=>?_)
     ·replace h58:=bT h58
      have h58:(fnX a f).isSome=true:=h58
      refine Qv (Fa 0 9)<|Qv (Ld (v:=str (fnY a f).key))<|Qv Mv<|Qv Nz<|Qv (Fa 0 91)<|Qv (Fa 1 9)<|Qv (Ld (v:=str f.c.key))<|Qv ES<|Qv Pt<|Ql ?_
      refine PQ.joined (()) (trivial) (by exact⟨rfl,rfl,rfl,congrArg (fun b=>some (Value.bool b)) (by unfold fnHad;rw[h58];rfl),trivial⟩) (by repeat(first|exact .nil|apply Pick.cons|exact .here|apply Ext.there))
     ·replace h58:=bF h58
      have h58:(fnX a f).isSome=false:=h58
      refine Qp<|Qp<|Qp<|Qp<|Qp<|Qp<|Qp<|Qp<|Qv Pf<|Ql ?_
      refine PQ.joined (()) (trivial) (by exact⟨rfl,rfl,rfl,congrArg (fun b=>some (Value.bool b)) (by unfold fnHad;rw[h58];rfl),trivial⟩) (by repeat(first|exact .nil|apply Pick.cons|exact .here|apply Ext.there))
    ·intro _ _
     refine Ps ?_
     refine CW.cond rfl (fun h67=>?_) (fun h67=>?_)
     ·replace h67:=bT h67
      have h67:fnHad a f=true:=h67
      refine Dr ([[(b3,.cells (lkC (fnY a f)).toArray 94 (0,0))]])<|Rv 0 rfl Mv<|Rv 1 rfl Mv<|Rv 2 rfl (Lw (l:=lkC (fnY a f)))<|Rv 3 rfl Nz<|Rv 4 rfl (Fa 10 4)<|ReN 5 rfl (Eff.storeX (v:= .bool true) (l:=wkC x t ({f with had:=false,old:=lk0}) (o)) (l':=wkC x t ({f with had:=true,old:=lk0}) (o)) rfl rfl rfl (by repeat(first|exact .here|exact .inner .here|exact .inner (.inner .here)|apply Upd.there)) (by rfl) (by show 12<30;omega) Tryz.sizeOf4) fun _ _=>Rv 6 rfl Nz<|Rv 7 rfl (Fa 11 94)<|ReN 8 rfl (Eff.storeA (cs:=lkC (fnY a f)) (l:=wkC x t ({f with had:=true,old:=lk0}) o) (l':=wkC x t ({f with had:=true,old:=fnY a f}) o) rfl rfl (by repeat(first|exact .here|exact .inner .here|exact .inner (.inner .here)|apply Upd.there)) (by rfl) (by simp[wkC,frC,klC,anC,lkC]) Tryz.sizeOf94 (by simp only[lkC,List.all_cons,List.all_nil,oneS,oneI,Bool.and_true])) fun _ _=>Rd ?_
      exact joinC ({f with had:=true,old:=fnY a f}) ((if_pos h67).symm)
     ·replace h67:=bF h67
      have h67:fnHad a f=false:=h67
      refine Sk ?_
      exact joinC ({f with had:=false,old:=lk0}) ((if_neg (by rw[h67];decide)).symm)
   ·intro g hg
    have hgc:g.c=f.c:=by rw[hg];exact(fnF_c a f).1
    have hgl:g.line=f.line:=by rw[hg];exact(fnF_c a f).2.1
    have hgh:g.had=fnHad a f:=by rw[hg];exact(fnF_c a f).2.2
    have hgF:FrOk g o:=by rw[hg];exact fnF_ok hF a
    refine Ps<|Bk<|Sq<|Rg<|Lv Mv<|Lv Nz<|Lv (Fa 0 91)<|Lv (Fa 0 3)<|Lv (Ld (v:= .int .i64 g.c.k))<|LW.re 83 (.int .i64 f.c.k) rfl (by rw[hgc])<|Lv Cm<|Lv Mv ?_
    refine LW.split (d:=85) rfl (fun h85=>?_) (fun h85=>?_)
    ·replace h85:=bT h85
     have h85:f.c.k=1:=h85
     refine Lv Mv<|Lv Nz<|Lv (Fa 10 4)<|Lv (Ld (v:= .bool g.had))<|LW.re 89 (.bool (fnHad a f)) rfl (by rw[hgh])<|Lv Pt<|Lv Av<|Nl<|Ps ?_
     refine CW.cond rfl (fun h78=>?_) (fun h78=>?_)
     ·replace h78:=bT h78
      have h78:fnHad a f=true:=h78
      refine Rg<|Lv Mv<|Lv Mv<|Lv Mv<|Lv Nz<|Lv (Fa 5 3)<|LeN (Eff.storeX (v:= .int .i64 2) (l:=wkC x t (g) (o)) (l':=wkC x t ({g with ph:=2}) (o)) rfl rfl rfl (by repeat(first|exact .here|exact .inner .here|exact .inner (.inner .here)|apply Upd.there)) (by rfl) (by show 7<30;omega) Tryz.sizeOf3) fun _ _=>Lv Nz<|Lv (Fa 18 3)<|LeN (Eff.storeX (v:= .int .i64 0) (l:=wkC x t ({g with ph:=2}) (o)) (l':=wkC x t ({g with ph:=2,pc:=0}) (o)) rfl rfl rfl (by repeat(first|exact .here|exact .inner .here|exact .inner (.inner .here)|apply Upd.there)) (by rfl) (by show 20<30;omega) Tryz.sizeOf3) fun _ _=>Lv Nz<|Lv (Fa 19 30)<|LeN (Eff.storeX (v:= .slice none 0 0) (l:=wkC x t ({g with ph:=2,pc:=0}) (o)) (l':=wkC x t ({g with ph:=2,pc:=0,bs:=[]}) ({o with bo:=none})) rfl rfl rfl (by repeat(first|exact .here|exact .inner .here|exact .inner (.inner .here)|apply Upd.there)) (by rfl) (by show 21<30;omega) Tryz.sizeOf30) fun _ _=>Nl<|Bn<|PQ.end0 rfl ?_
      have e0:pFindF a f=pFindG g (fnHad a f):=by rw[hg];exact if_neg (by rw[hgo];decide)
      have e1:pFindG g (fnHad a f)={g with ph:=2,pc:=0,bs:=[]}:=(if_pos (by rw[hgc];exact h85)).trans (if_pos h78)
      have e2:pFindA a f=a:=(if_neg (by rw[hgo];decide)).trans (if_neg (by unfold pFindB;simp[h85]))
      rw[e0,e1,e2]
      intro w' hw;exact⟨(s,{o with bo:=none}),⟨hG,⟨hgF.gz,hgF.go,⟨rfl,rfl⟩,hgF.po,hgF.so,hgF.ho⟩⟩,rfl,(hw.pick (ss:=[(wb,.cells (wkC x t {g with ph:=2,pc:=0,bs:=[]} {o with bo:=none}).toArray T (0,0))]::ownG 91 (o.gz.flatMap kzC) o.go::ownG 192 (g.pa.flatMap ptC) o.po::(anS g.an o.so o.ho++(arS x s xd.db++vS xd v))) (by repeat(first|exact .nil|apply Pick.cons|exact .here|apply Ext.there))).perm (.refl _)⟩
     ·replace h78:=bF h78
      have h78:fnHad a f=false:=h78
      refine Sq<|Rg<|Lv Mv<|Lv Nz<|Lv (Fa 0 91)<|Lv (Fa 0 3)<|Lv (Ld (v:= .int .i64 g.c.k))<|LW.re 105 (.int .i64 f.c.k) rfl (by rw[hgc])<|Lv Cm<|Lv Av<|Nl<|Ps ?_
      refine CW.cond rfl (fun h100=>?_) (fun h100=>?_)
      ·replace h100:=bT h100
       refine Rg<|Lv Mv<|Lv Nz<|Lv (Fa 5 3)<|LeN (Eff.storeX (v:= .int .i64 6) (l:=wkC x t (g) (o)) (l':=wkC x t ({g with ph:=6}) (o)) rfl rfl rfl (by repeat(first|exact .here|exact .inner .here|exact .inner (.inner .here)|apply Upd.there)) (by rfl) (by show 7<30;omega) Tryz.sizeOf3) fun _ _=>Nl<|Bn<|PQ.end0 rfl ?_
       have e0:pFindF a f=pFindG g (fnHad a f):=by rw[hg];exact if_neg (by rw[hgo];decide)
       have e1:pFindG g (fnHad a f)={g with ph:=6}:=(if_pos (by rw[hgc];exact h85)).trans (if_neg (by rw[h78];decide))
       have e2:pFindA a f=a:=(if_neg (by rw[hgo];decide)).trans (if_neg (by unfold pFindB;simp[h85]))
       rw[e0,e1,e2]
       intro w' hw;exact⟨(s,o),⟨hG,hgF.same rfl rfl rfl rfl rfl⟩,rfl,hw.pick (by repeat(first|exact .nil|apply Pick.cons|exact .here|apply Ext.there))⟩
      ·exact absurd h85 (by simpa using h100)
    ·replace h85:=bF h85
     have h85:¬f.c.k=1:=h85
     refine Lp<|Lp<|Lp<|Lp<|Lv Pf<|Lv Av<|Nl<|Ps<|Cf<|Sq<|Rg<|Lv Mv<|Lv Nz<|Lv (Fa 0 91)<|Lv (Fa 0 3)<|Lv (Ld (v:= .int .i64 g.c.k))<|LW.re 105 (.int .i64 f.c.k) rfl (by rw[hgc])<|Lv Cm<|Lv Av<|Nl<|Ps ?_
     refine CW.cond rfl (fun h100=>?_) (fun h100=>?_)
     ·exact absurd (show f.c.k=1 by simpa using h100) h85
     ·replace h100:=bF h100
      refine Sq<|Rg<|Lv Mv<|Lv Nz<|Lv (Fa 0 91)<|Lv (Fa 0 3)<|Lv (Ld (v:= .int .i64 g.c.k))<|LW.re 115 (.int .i64 f.c.k) rfl (by rw[hgc])<|Lv Cm<|Lv Mv ?_
      refine LW.split (d:=117) rfl (fun h117=>?_) (fun h117=>?_)
      ·replace h117:=bT h117
       have h117:f.c.k=3:=h117
       refine Lv Mv<|Lv Nz<|Lv (Fa 10 4)<|Lv (Ld (v:= .bool g.had))<|LW.re 121 (.bool (fnHad a f)) rfl (by rw[hgh])<|Lv Nt<|Lv Pt<|Lv Av<|Nl<|Ps ?_
       refine CW.cond rfl (fun h110=>?_) (fun h110=>?_)
       ·replace h110:=bT h110
        have h110:fnHad a f=false:=by simpa using h110
        refine Sq<|Sq<|Rg<|Lv Mv<|Lv Nz<|Lv (Fa 16 3)<|Lv (Ld (v:= .int .i64 g.line))<|LW.re 127 (.int .i64 f.line) rfl (by rw[hgl])<|Lv Cm<|Nl<|Ps ?_
        refine CW.cond rfl (fun h128=>?_) (fun h128=>?_)
        ·replace h128:=bT h128
         have h128:0≤f.line:=h128
         refine Rg<|Lv Mv<|Lv Nz<|Lv (Fa 0 81)<|Lv (Ld (v:= .pointer (some ⟨x.a,0,none⟩)))<|Lv Mv<|Le (CM ((wsS wb T x t g o s xd v)) fun w hw hs0=>fgive_g wb T x t g o s xd v th n a hG hgF w hs0) fun s2 hG2=>Nl<|Ps<|Rg<|Lv Mv<|Lv Nz<|Lv (Fa 5 3)<|LeN (Eff.storeX (v:= .int .i64 6) (l:=wkC x t (gbF g) (o)) (l':=wkC x t ({gbF g with ph:=6}) (o)) rfl rfl rfl (by repeat(first|exact .here|exact .inner .here|exact .inner (.inner .here)|apply Upd.there)) (by rfl) (by show 7<30;omega) Tryz.sizeOf3) fun _ _=>Nl<|Bn<|PQ.end0 rfl ?_
         have e0:pFindF a f=pFindG g (fnHad a f):=by rw[hg];exact if_neg (by rw[hgo];decide)
         have e1:pFindG g (fnHad a f)={gbF g with ph:=6}:=(if_neg (by rw[hgc];exact h85)).trans ((if_pos ⟨by rw[hgc];exact h117,h110⟩).trans (if_pos (by rw[hgl];exact h128)))
         have e2:pFindA a f=gbA a g:=(if_neg (by rw[hgo];decide)).trans ((if_pos (by unfold pFindB;simp[h85,h117,h110,h128])).trans (by rw[hg]))
         rw[e0,e1,e2]
         intro w' hw;exact⟨(s2,o),⟨hG2,hgF.same rfl rfl rfl rfl rfl⟩,rfl,hw.pick (by repeat(first|exact .nil|apply Pick.cons|exact .here|apply Ext.there))⟩
        ·replace h128:=bF h128
         have h128:¬0≤f.line:=by omega
         refine Sk<|Ps<|Rg<|Lv Mv<|Lv Nz<|Lv (Fa 5 3)<|LeN (Eff.storeX (v:= .int .i64 6) (l:=wkC x t (g) (o)) (l':=wkC x t ({g with ph:=6}) (o)) rfl rfl rfl (by repeat(first|exact .here|exact .inner .here|exact .inner (.inner .here)|apply Upd.there)) (by rfl) (by show 7<30;omega) Tryz.sizeOf3) fun _ _=>Nl<|Bn<|PQ.end0 rfl ?_
         have e0:pFindF a f=pFindG g (fnHad a f):=by rw[hg];exact if_neg (by rw[hgo];decide)
         have e1:pFindG g (fnHad a f)={g with ph:=6}:=(if_neg (by rw[hgc];exact h85)).trans ((if_pos ⟨by rw[hgc];exact h117,h110⟩).trans (if_neg (by rw[hgl];exact h128)))
         have e2:pFindA a f=a:=(if_neg (by rw[hgo];decide)).trans (if_neg (by unfold pFindB;simp[h128]))
         rw[e0,e1,e2]
         intro w' hw;exact⟨(s,o),⟨hG,hgF.same rfl rfl rfl rfl rfl⟩,rfl,hw.pick (by repeat(first|exact .nil|apply Pick.cons|exact .here|apply Ext.there))⟩
       ·replace h110:=bF h110
        have h110:fnHad a f=true:=by simpa using h110
        refine Sq<|Rg<|Lv Mv<|Lv Nz<|Lv (Fa 16 3)<|Lv (Ld (v:= .int .i64 g.line))<|LW.re 142 (.int .i64 f.line) rfl (by rw[hgl])<|Lv Cm<|Lv Av<|Nl<|Ps ?_
        refine CW.cond rfl (fun h138=>?_) (fun h138=>?_)
        ·replace h138:=bT h138
         have h138:f.line<0:=h138
         refine Rg<|Lv Mv<|Lv Nz<|Lv (Fa 5 3)<|LeN (Eff.storeX (v:= .int .i64 3) (l:=wkC x t (g) (o)) (l':=wkC x t ({g with ph:=3}) (o)) rfl rfl rfl (by repeat(first|exact .here|exact .inner .here|exact .inner (.inner .here)|apply Upd.there)) (by rfl) (by show 7<30;omega) Tryz.sizeOf3) fun _ _=>Nl<|Bn<|PQ.end0 rfl ?_
         have e0:pFindF a f=pFindG g (fnHad a f):=by rw[hg];exact if_neg (by rw[hgo];decide)
         have e1:pFindG g (fnHad a f)={g with ph:=3}:=(if_neg (by rw[hgc];exact h85)).trans ((if_neg (by rintro⟨h8,h9⟩;rw[hgc] at h8;first|exact absurd h8 h117|(rw[h110] at h9;cases h9))).trans (if_pos (by rw[hgl];exact h138)))
         have e2:pFindA a f=a:=(if_neg (by rw[hgo];decide)).trans (if_neg (by unfold pFindB;first|(simp[h117];done)|(simp[h110];done)))
         rw[e0,e1,e2]
         intro w' hw;exact⟨(s,o),⟨hG,hgF.same rfl rfl rfl rfl rfl⟩,rfl,hw.pick (by repeat(first|exact .nil|apply Pick.cons|exact .here|apply Ext.there))⟩
        ·replace h138:=bF h138
         have h138:¬f.line<0:=by omega
         refine Rg<|Lv Mv<|Lv Nz<|Lv (Fa 5 3)<|LeN (Eff.storeX (v:= .int .i64 5) (l:=wkC x t (g) (o)) (l':=wkC x t ({g with ph:=5}) (o)) rfl rfl rfl (by repeat(first|exact .here|exact .inner .here|exact .inner (.inner .here)|apply Upd.there)) (by rfl) (by show 7<30;omega) Tryz.sizeOf3) fun _ _=>Nl<|Bn<|PQ.end0 rfl ?_
         have e0:pFindF a f=pFindG g (fnHad a f):=by rw[hg];exact if_neg (by rw[hgo];decide)
         have e1:pFindG g (fnHad a f)={g with ph:=5}:=(if_neg (by rw[hgc];exact h85)).trans ((if_neg (by rintro⟨h8,h9⟩;rw[hgc] at h8;first|exact absurd h8 h117|(rw[h110] at h9;cases h9))).trans (if_neg (by rw[hgl];omega)))
         have e2:pFindA a f=a:=(if_neg (by rw[hgo];decide)).trans (if_neg (by unfold pFindB;first|(simp[h117];done)|(simp[h110];done)))
         rw[e0,e1,e2]
         intro w' hw;exact⟨(s,o),⟨hG,hgF.same rfl rfl rfl rfl rfl⟩,rfl,hw.pick (by repeat(first|exact .nil|apply Pick.cons|exact .here|apply Ext.there))⟩
      ·replace h117:=bF h117
       have h117:¬f.c.k=3:=h117
       refine Lp<|Lp<|Lp<|Lp<|Lp<|Lv Pf<|Lv Av<|Nl<|Ps<|Cf<|Sq<|Rg<|Lv Mv<|Lv Nz<|Lv (Fa 16 3)<|Lv (Ld (v:= .int .i64 g.line))<|LW.re 142 (.int .i64 f.line) rfl (by rw[hgl])<|Lv Cm<|Lv Av<|Nl<|Ps ?_
       refine CW.cond rfl (fun h138=>?_) (fun h138=>?_)
       ·replace h138:=bT h138
        have h138:f.line<0:=h138
        refine Rg<|Lv Mv<|Lv Nz<|Lv (Fa 5 3)<|LeN (Eff.storeX (v:= .int .i64 3) (l:=wkC x t (g) (o)) (l':=wkC x t ({g with ph:=3}) (o)) rfl rfl rfl (by repeat(first|exact .here|exact .inner .here|exact .inner (.inner .here)|apply Upd.there)) (by rfl) (by show 7<30;omega) Tryz.sizeOf3) fun _ _=>Nl<|Bn<|PQ.end0 rfl ?_
        have e0:pFindF a f=pFindG g (fnHad a f):=by rw[hg];exact if_neg (by rw[hgo];decide)
        have e1:pFindG g (fnHad a f)={g with ph:=3}:=(if_neg (by rw[hgc];exact h85)).trans ((if_neg (by rintro⟨h8,h9⟩;rw[hgc] at h8;first|exact absurd h8 h117|(rw[h110] at h9;cases h9))).trans (if_pos (by rw[hgl];exact h138)))
        have e2:pFindA a f=a:=(if_neg (by rw[hgo];decide)).trans (if_neg (by unfold pFindB;first|(simp[h117];done)|(simp[h110];done)))
        rw[e0,e1,e2]
        intro w' hw;exact⟨(s,o),⟨hG,hgF.same rfl rfl rfl rfl rfl⟩,rfl,hw.pick (by repeat(first|exact .nil|apply Pick.cons|exact .here|apply Ext.there))⟩
       ·replace h138:=bF h138
        have h138:¬f.line<0:=by omega
        refine Rg<|Lv Mv<|Lv Nz<|Lv (Fa 5 3)<|LeN (Eff.storeX (v:= .int .i64 5) (l:=wkC x t (g) (o)) (l':=wkC x t ({g with ph:=5}) (o)) rfl rfl rfl (by repeat(first|exact .here|exact .inner .here|exact .inner (.inner .here)|apply Upd.there)) (by rfl) (by show 7<30;omega) Tryz.sizeOf3) fun _ _=>Nl<|Bn<|PQ.end0 rfl ?_
        have e0:pFindF a f=pFindG g (fnHad a f):=by rw[hg];exact if_neg (by rw[hgo];decide)
        have e1:pFindG g (fnHad a f)={g with ph:=5}:=(if_neg (by rw[hgc];exact h85)).trans ((if_neg (by rintro⟨h8,h9⟩;rw[hgc] at h8;first|exact absurd h8 h117|(rw[h110] at h9;cases h9))).trans (if_neg (by rw[hgl];omega)))
        have e2:pFindA a f=a:=(if_neg (by rw[hgo];decide)).trans (if_neg (by unfold pFindB;first|(simp[h117];done)|(simp[h110];done)))
        rw[e0,e1,e2]
        intro w' hw;exact⟨(s,o),⟨hG,hgF.same rfl rfl rfl rfl rfl⟩,rfl,hw.pick (by repeat(first|exact .nil|apply Pick.cons|exact .here|apply Ext.there))⟩
theorem places473:∀w,((Array.mapM (fun(f:Field)=>do pure (f.offset,← sizeOf f.type)) (Tryz.prog.fieldsOf 473):Sem (Array (Nat×Nat)))).run Tryz.prog w= .ok [(0,1),(1,1),(2,1),(3,1),(4,5),(9,1),(10,1)].toArray w:=by
 intro w;kernel_rfl
instance:Plc Tryz.prog 473 (fOf Tryz.underlying473) (lOf (P:=Tryz.prog) places473):=⟨places473,Tryz.underlying473⟩
instance:Cal Tryz.prog 357:=⟨Tryz.call357⟩
def pCh (f:Frm):Chg:=⟨f.c.k,f.c.key,f.c.val,f.had,f.old,f.line,f.cls⟩
def pPubE (a:AS)(t:Int)(f:Frm):Int:=pubE a t f.ep [pCh f]
def pPubA (a:AS)(v:Dev)(t:Int)(f:Frm):AS×Dev:=if pPubE a t f=0 then pubA t f.ep a v [pCh f] else if pPubE a t f=8 then(a,v) else(gbA a f,v)
def pPubF (a:AS)(t:Int)(f:Frm):Frm:=if pPubE a t f=0 then {f with an:={f.an with fd:=chOut (pCh f),ep:=f.ep},line:= -1,ph:=6} else if pPubE a t f=8 then {f with ep:=a.ck.now,pos:=[],past:=false,had:=false,old:=lk0,ph:=1} else failF (gbF f) (pPubE a t f)
theorem pubA_no {a:AS}{t e:Int}{v:Dev}{l:List Chg}(h:¬pubE a t e l=0):pubA t e a v l=(a,v):=if_neg h
theorem own_hit {b:Bool}{o:V.OwnO}(h:ownOk 1 1 ([b].flatMap boC) o):∃g rest c,o=some (g,rest,c):=by
 rcases o with _|⟨g,rest,c⟩
 ·exact absurd (show(1:Nat)=0 from h.2) (by decide)
 ·exact⟨g,rest,c,rfl⟩
theorem ppub_g (wb:Nat)(T:TypeId)(x:ArR)(t:Int)(f:Frm)(o:FrO)(s:ArS)(xd:DvR)(v:Dev)(th n:Nat)(a:AS)(hG:ArG th n x s a)(hF:FrOk f o)(hB:FrB f)(m n0:Nat)(hin:a.In th n m n0)(hids:a.Ids)(hm:m≤890)(hn0:n0≤80000)(hth:1≤th∧th≤4)(he:0≤f.ep∧f.ep≤4611686018427387904)(w:World)(hs:Sat (wsS wb T x t f o s xd v) w):Calls Tryz.prog 296 [.pointer (some ⟨wb,0,none⟩)].toArray w fun e w'=>∃z:ArS×FrO,(ArG th n x z.1 ((pPubA a v t f).1)∧FrOk (pPubF a t f) z.2)∧e= .returned (.tuple #[])∧Hp ⟨w,V.ids ((wsS wb T x t f o s xd v))⟩ ((wsS wb T x t (pPubF a t f) z.2 z.1 xd ((pPubA a v t f).2))) w':=by
 refine V.calls (wsS wb T x t f o s xd v) Tryz.func296 rfl Tryz.ntmps296 (Nat.le_of_ble_eq_true rfl) hs<|Sq<|Rg<|Lv Mv<|Lv Nz<|Lv (Fa 2 101)<|Lv Av<|Nl<|Ps<|Sq<|Dr ([[(wb,.cells (wkC x t (f) (o)).toArray T (0,0))]])<|Rv 0 rfl Mv<|Rv 1 rfl Nz<|Rv 2 rfl (Fa 0 81)<|Rv 3 rfl (Ld (v:= .pointer (some ⟨x.a,0,none⟩)))<|Rv 4 rfl Mv<|Rv 5 rfl Nz<|Rv 6 rfl (Fa 1 3)<|Rv 7 rfl (Ld (v:= .int .i64 t))<|Rv 8 rfl Mv<|Rv 9 rfl Nz<|Rv 10 rfl (Fa 6 92)<|Rv 11 rfl (Ld (v:= .int .u64 f.ep))<|Rv 12 rfl Mv<|Rv 13 rfl Nz<|Rv 14 rfl (Fa 0 91)<|Rv 15 rfl (Fa 0 3)<|Rv 16 rfl (Ld (v:= .int .i64 f.c.k))<|Rv 17 rfl Mv<|Rv 18 rfl Nz<|Rv 19 rfl (Fa 0 91)<|Rv 20 rfl (Fa 1 9)<|Rv 21 rfl (Ld (v:=str f.c.key))<|Rv 22 rfl Mv<|Rv 23 rfl Nz<|Rv 24 rfl (Fa 0 91)<|Rv 25 rfl (Fa 2 9)<|Rv 26 rfl (Ld (v:=str f.c.val))<|Rv 27 rfl Mv<|Rv 28 rfl Nz<|Rv 29 rfl (Fa 10 4)<|Rv 30 rfl (Ld (v:= .bool f.had))<|Rv 31 rfl Mv<|Rv 32 rfl Nz<|Rv 33 rfl (Fa 11 94)<|Rv 34 rfl (La (lkC f.old) (hl:=rfl))<|Rv 35 rfl Mv<|Rv 36 rfl Nz<|Rv 37 rfl (Fa 16 3)<|Rv 38 rfl (Ld (v:= .int .i64 f.line))<|Rv 39 rfl Mv<|Rv 40 rfl Nz<|Rv 41 rfl (Fa 17 3)<|Rv 42 rfl (Ld (v:= .int .i64 f.cls))<|Rv 43 rfl (Bd (chC (pCh f)))<|Re 44 rfl (Eff.buildSlice (rfl) [_,_,_,_,_,_,_,_,_,_,_] Tryz.underlying474 Tryz.sizeOf473 (by exact Tryz.zeroValue473) rfl rfl rfl rfl (by rfl)) fun b53 _=>Re 45 rfl (CM ((arS x s xd.db++vS xd v)) fun w hw hs0=>publish_g x s th n m n0 a xd v hG.ok hG.is hin hids hm hn0 hth hG.R t f.ep he [pCh f] (some ⟨b53,0,none⟩) 1 (by simp) (by intro y hy;simp at hy;subst hy;have:=hB.k;exact⟨this.1,by show f.c.val.length≤100000;omega⟩) w hs0 (V.slAt_flat (l:=[pCh f]) (enc:=chC) (r:=[]) hw chC_len (by simp) (show InS (b53,.cells (chC (pCh f)).toArray 473 (0,0)) _ from(by repeat(first|exact .here|exact .inner .here|exact .inner (.inner .here)|refine .there ?_)))) (fun b q hb=>by simp only[Option.some.injEq,Addr.mk.injEq] at hb;obtain⟨rfl,_⟩:=hb;exact not_in hw (show Pick (arS x s xd.db++vS xd v) _ _ from(by repeat(first|exact .nil|apply Pick.cons|exact .here|apply Ext.there))) (show InS (b53,.cells (chC (pCh f)).toArray 473 (0,0)) _ from(by repeat(first|exact .here|exact .inner .here|exact .inner (.inner .here)|refine .there ?_))))) ?_
 rintro⟨s2,ho⟩ ⟨hz1,hz2,hz3,hz4⟩
 simp only at hz1 hz2 hz3 hz4⊢
 rw[show pubE a t f.ep [pCh f]=pPubE a t f from rfl] at hz4⊢
 refine Rv 46 rfl Mv<|Rv 47 rfl Ex<|Rv 48 rfl Ex<|RW.re 56 (.int .i64 (pPubE a t f)) rfl rfl<|Rv 49 rfl Av<|Rv 50 rfl Av<|Rd<|Ps<|Sq<|Rg<|Lv Mv<|Nl<|Ps<|Bk<|Sq<|Rg<|Lv Cm<|Lv Av<|Nl<|Ps ?_
 refine CW.cond rfl (fun h67=>?_) (fun h67=>?_)
 ·replace h67:=bT h67
  have h67:pPubE a t f=0:=h67
  rw[if_pos h67,if_pos h67] at hz4⊢
  have hG2:ArG th n x s2 (pubA t f.ep a v [pCh f]).1:=⟨hz1,hz2,by have:=hG.R;omega⟩
  obtain⟨hg,hrest,hcap,rfl⟩:=own_hit (b:=chOut (pCh f)) hz4
  refine Dr ([[(hg,.cells ((.bool (chOut (pCh f)):Value)::hrest).toArray 4 (0,0))]])<|Rv 0 rfl Mv<|Rv 1 rfl Mv<|Rv 2 rfl Mv<|Rv 3 rfl Mv<|Rv 4 rfl Mv<|Rv 5 rfl (Val.indexAddrN (i:=0) rfl rfl Tryz.underlying97 Tryz.sizeOf4 (by simp[hitsF]))<|Rv 6 rfl (Ld (v:= .bool (chOut (pCh f))) (hl:=rfl))<|Rv 7 rfl Mv<|Rv 8 rfl Nz<|Rv 9 rfl (Fa 6 92)<|Re 10 rfl (Eff.ofVal (Ld (v:= .int .u64 f.ep))) fun _ _=>Rv 11 rfl Nz<|Rv 12 rfl (Fa 22 99)<|Rv 13 rfl (Fa 1 4)<|ReN 14 rfl (Eff.storeX (v:= .bool (chOut (pCh f))) (l:=wkC x t (f) (o)) (l':=wkC x t ({f with an:={f.an with fd:=chOut (pCh f)}}) (o)) rfl rfl rfl (by repeat(first|exact .here|exact .inner .here|exact .inner (.inner .here)|apply Upd.there)) (by rfl) (by show 25<30;omega) Tryz.sizeOf4) fun _ _=>Rv 15 rfl Nz<|Rv 16 rfl (Fa 22 99)<|Rv 17 rfl (Fa 5 92)<|ReN 18 rfl (Eff.storeX (v:= .int .u64 f.ep) (l:=wkC x t ({f with an:={f.an with fd:=chOut (pCh f)}}) (o)) (l':=wkC x t ({f with an:={f.an with fd:=chOut (pCh f),ep:=f.ep}}) (o)) rfl rfl rfl (by repeat(first|exact .here|exact .inner .here|exact .inner (.inner .here)|apply Upd.there)) (by rfl) (by show 29<30;omega) Tryz.sizeOf92) fun _ _=>Rv 19 rfl Nz<|Rv 20 rfl (Fa 16 3)<|ReN 21 rfl (Eff.storeX (v:= .int .i64 (-1)) (l:=wkC x t ({f with an:={f.an with fd:=chOut (pCh f),ep:=f.ep}}) (o)) (l':=wkC x t ({f with an:={f.an with fd:=chOut (pCh f),ep:=f.ep},line:= -1}) (o)) rfl rfl rfl (by repeat(first|exact .here|exact .inner .here|exact .inner (.inner .here)|apply Upd.there)) (by rfl) (by show 18<30;omega) Tryz.sizeOf3) fun _ _=>Rv 22 rfl Nz<|Rv 23 rfl (Fa 5 3)<|ReN 24 rfl (Eff.storeX (v:= .int .i64 6) (l:=wkC x t ({f with an:={f.an with fd:=chOut (pCh f),ep:=f.ep},line:= -1}) (o)) (l':=wkC x t ({f with an:={f.an with fd:=chOut (pCh f),ep:=f.ep},line:= -1,ph:=6}) (o)) rfl rfl rfl (by repeat(first|exact .here|exact .inner .here|exact .inner (.inner .here)|apply Upd.there)) (by rfl) (by show 7<30;omega) Tryz.sizeOf3) ?_
  intro _ _
  refine Rd<|Bn<|PQ.end0 rfl ?_
  have e1:pPubF a t f={f with an:={f.an with fd:=chOut (pCh f),ep:=f.ep},line:= -1,ph:=6}:=if_pos h67
  have e2:pPubA a v t f=pubA t f.ep a v [pCh f]:=if_pos h67
  rw[e1,e2]
  intro w' hw;exact⟨(s2,o),⟨hG2,hF.same rfl rfl rfl rfl rfl⟩,rfl,hw.pick (by repeat(first|exact .nil|apply Pick.cons|exact .here|apply Ext.there))⟩
 ·replace h67:=bF h67
  have h67:¬pPubE a t f=0:=h67
  rw[if_neg h67,if_neg h67] at hz4⊢
  have hG3:ArG th n x s2 a:=⟨hz1,by rw[pubA_no h67] at hz2;exact hz2,by have:=hG.R;omega⟩
  rw[pubA_no h67] at hz2⊢
  refine Sq<|Rg<|Lv Cm<|Lv Av<|Nl<|Ps ?_
  refine CW.cond rfl (fun h90=>?_) (fun h90=>?_)
  ·replace h90:=bT h90
   have h90:pPubE a t f=8:=h90
   refine Sq<|Rg<|Lv Mv<|Lv Mv<|Lv Nz<|Lv (Fa 0 81)<|Lv (Ld (v:= .pointer (some ⟨x.a,0,none⟩)))<|Le (CV fun w hw=>aclock_g x s2 w hw.at) fun _ _=>Le (CV fun w hw=>know_g x.cb x.wb a.ck w (by have h8:=hw.sat.pick (ss:=ckS x.cb x.wb s2.ck) (by repeat(first|exact .nil|apply Pick.cons|exact .here|apply Ext.there));rw[hz2.ck] at h8;exact h8)) fun _ _=>Lv Nz<|Lv (Fa 6 92)<|LeN (Eff.storeX (v:= .int .u64 a.ck.now) (l:=wkC x t (f) (o)) (l':=wkC x t ({f with ep:=a.ck.now}) (o)) rfl rfl rfl (by repeat(first|exact .here|exact .inner .here|exact .inner (.inner .here)|apply Upd.there)) (by rfl) (by show 8<30;omega) Tryz.sizeOf92) fun _ _=>Nl<|Ps<|Rg<|Lv Mv<|Lv Mv<|Lv Mv<|Lv Mv<|Lv Mv<|Lv (Bd [_,_,_,_,_])<|Lv Nz<|Lv (Fa 7 9)<|LeN (Eff.storeX (v:=str []) (l:=wkC x t ({f with ep:=a.ck.now}) (o)) (l':=wkC x t ({f with ep:=a.ck.now,pos:=[]}) (o)) rfl rfl rfl (by repeat(first|exact .here|exact .inner .here|exact .inner (.inner .here)|apply Upd.there)) (by rfl) (by show 9<30;omega) Tryz.sizeOf9) fun _ _=>Lv Nz<|Lv (Fa 8 4)<|LeN (Eff.storeX (v:= .bool false) (l:=wkC x t ({f with ep:=a.ck.now,pos:=[]}) (o)) (l':=wkC x t ({f with ep:=a.ck.now,pos:=[],past:=false}) (o)) rfl rfl rfl (by repeat(first|exact .here|exact .inner .here|exact .inner (.inner .here)|apply Upd.there)) (by rfl) (by show 10<30;omega) Tryz.sizeOf4) fun _ _=>Lv Nz<|Lv (Fa 10 4)<|LeN (Eff.storeX (v:= .bool false) (l:=wkC x t ({f with ep:=a.ck.now,pos:=[],past:=false}) (o)) (l':=wkC x t ({f with ep:=a.ck.now,pos:=[],past:=false,had:=false}) (o)) rfl rfl rfl (by repeat(first|exact .here|exact .inner .here|exact .inner (.inner .here)|apply Upd.there)) (by rfl) (by show 12<30;omega) Tryz.sizeOf4) fun _ _=>Lv Nz<|Lv (Fa 11 94)<|LeN (Eff.storeA (cs:=lkC lk0) (l:=wkC x t ({f with ep:=a.ck.now,pos:=[],past:=false,had:=false}) o) (l':=wkC x t ({f with ep:=a.ck.now,pos:=[],past:=false,had:=false,old:=lk0}) o) rfl rfl (by repeat(first|exact .here|exact .inner .here|exact .inner (.inner .here)|apply Upd.there)) (by rfl) (by simp[wkC,frC,klC,anC,lkC]) Tryz.sizeOf94 (by simp only[lkC,List.all_cons,List.all_nil,oneS,oneI,Bool.and_true])) ?_
   intro _ _
   refine Lv Nz<|Lv (Fa 5 3)<|LeN (Eff.storeX (v:= .int .i64 1) (l:=wkC x t ({f with ep:=a.ck.now,pos:=[],past:=false,had:=false,old:=lk0}) (o)) (l':=wkC x t ({f with ep:=a.ck.now,pos:=[],past:=false,had:=false,old:=lk0,ph:=1}) (o)) rfl rfl rfl (by repeat(first|exact .here|exact .inner .here|exact .inner (.inner .here)|apply Upd.there)) (by rfl) (by show 7<30;omega) Tryz.sizeOf3) fun _ _=>Nl<|Bn<|PQ.end0 rfl ?_
   have e1:pPubF a t f={f with ep:=a.ck.now,pos:=[],past:=false,had:=false,old:=lk0,ph:=1}:=(if_neg h67).trans (if_pos h90)
   have e2:pPubA a v t f=(a,v):=(if_neg h67).trans (if_pos h90)
   rw[e1,e2]
   intro w' hw;exact⟨(s2,o),⟨hG3,hF.same rfl rfl rfl rfl rfl⟩,rfl,hw.pick (by repeat(first|exact .nil|apply Pick.cons|exact .here|apply Ext.there))⟩
  ·replace h90:=bF h90
   have h90:¬pPubE a t f=8:=h90
   refine Sq<|Rg<|Lv Mv<|Lv Nz<|Lv (Fa 0 81)<|Lv (Ld (v:= .pointer (some ⟨x.a,0,none⟩)))<|Lv Mv<|Le (CM (wsS wb T x t f o s2 xd v) fun w hw hs0=>fgive_g wb T x t f o s2 xd v th n a hG3 hF w hs0) fun s4 hG4=>Nl<|Ps<|Rg<|Lv Mv<|Lv Mv<|Le (CM ([[(wb,.cells (wkC x t (gbF f) (o)).toArray T (0,0))]]) fun w hw hs0=>ffail_g wb T x t (gbF f) o (pPubE a t f) w hs0) fun _ _=>Nl<|Bn<|PQ.end0 rfl ?_
   have e1:pPubF a t f=failF (gbF f) (pPubE a t f):=(if_neg h67).trans (if_neg h90)
   have e2:pPubA a v t f=(gbA a f,v):=(if_neg h67).trans (if_neg h90)
   rw[e1,e2]
   intro w' hw;exact⟨(s4,o),⟨hG4,hF.same rfl rfl rfl rfl rfl⟩,rfl,hw.pick (by repeat(first|exact .nil|apply Pick.cons|exact .here|apply Ext.there))⟩
end G
end Go.Proofs.YtpjmdbifacijoaaGreatDoor
namespace Go.Proofs.YtpjmdbifacijoaaGreatDoor
open Go Go.RowKit V
set_option linter.unusedVariables false
set_option maxRecDepth 100000
set_option maxHeartbeats 400000
namespace G
open V (str byC ownV ownG ownS ownOk)
theorem places387:∀w,((Array.mapM (fun(f:Field)=>do pure (f.offset,← sizeOf f.type)) (Tryz.prog.fieldsOf 387):Sem (Array (Nat×Nat)))).run Tryz.prog w= .ok [(0,1),(1,1),(2,28)].toArray w:=by
 intro w;kernel_rfl
instance:AgF Tryz.prog 388:=⟨Tryz.isAgg388⟩
instance:Siz Tryz.prog 389 (kOf Tryz.sizeOf389):=⟨Tryz.sizeOf389⟩
instance:Zer Tryz.prog 389 (zOf Tryz.zeroValue389):=⟨Tryz.zeroValue389⟩
instance:Plc Tryz.prog 387 (fOf Tryz.underlying387) (lOf (P:=Tryz.prog) places387):=⟨places387,Tryz.underlying387⟩
instance:Cal Tryz.prog 246:=⟨Tryz.call246⟩
instance:Cal Tryz.prog 247:=⟨Tryz.call247⟩
structure StH (th n m n0:Nat)(a:AS)(f:Frm):Prop where
 inn:a.In th n m n0
 ids:a.Ids
 m:m≤890
 n0:n0≤80000
 th:1≤th∧th≤4
 ep:0≤f.ep∧f.ep≤4611686018427387904
 ks:∀l∈tLinks a.Tz,l.key.length≤100000
 B:FrB f
 sz:FrSz f
def pStep (k:Nat)(a:AS)(v:Dev)(t:Int)(f:Frm):AS×Dev×Frm:=match k with
 |0=>(enterA a t f,v,pEnterF a t f)
 |1=>(pFindA a f,v,pFindF a f)
 |2=>(a,v,pReadF f v 1)
 |3=>(takeA a (sizeK f.c),v,pTakeF a f)
 |4=>(a,pWriteV v f,pWriteF f)
 |5=>((pPubA a v t f).1,(pPubA a v t f).2,pPubF a t f)
 |_=>(leaveA a t,v,leaveF f)
def pBad (f:Frm):Bool:=decide (f.c.k<1)||decide (3<f.c.k)||decide (f.ph<0)||decide (7≤f.ph)
def pointA (a:AS)(v:Dev)(t:Int)(f:Frm):AS×Dev×Frm:=if pBad f=true then(a,v,f) else pStep f.ph.toNat a v t f
def phP:Nat→Nat
 |0=>291
 |1=>292
 |2=>293
 |3=>294
 |4=>295
 |5=>296
 |_=>297
def phV:List Value:=(List.range 7).map fun k=> .func (.func (phP k)) #[] #[]
theorem phV_at {k:Nat}(h:k<7):phV[0+k*1]? =some (.func (.func (phP k)) #[] #[]):=by
 rcases k with _|_|_|_|_|_|_|k<;>first|rfl|omega
theorem call_ph (k:Nat)(args:Array Value)(w:World):(callFunc (phP k) args).run Tryz.prog w= .ok (.enter (phP k) args) w:=by
 rcases k with _|_|_|_|_|_|k
 ·exact Tryz.call291 args w
 ·exact Tryz.call292 args w
 ·exact Tryz.call293 args w
 ·exact Tryz.call294 args w
 ·exact Tryz.call295 args w
 ·exact Tryz.call296 args w
 ·exact Tryz.call297 args w
theorem pwork_g (k:Nat)(wb:Nat)(T:TypeId)(x:ArR)(t:Int)(f:Frm)(o:FrO)(s:ArS)(xd:DvR)(v:Dev)(th n m n0:Nat)(a:AS)(hG:ArG th n x s a)(hF:FrOk f o)(hH:StH th n m n0 a f)(w:World)(hs:Sat (wsS wb T x t f o s xd v) w):Calls Tryz.prog (phP k) [.pointer (some ⟨wb,0,none⟩)].toArray w fun e w'=>∃z:ArS×FrO,(ArG th n x z.1 (pStep k a v t f).1∧FrOk (pStep k a v t f).2.2 z.2)∧e= .returned (.tuple #[])∧Hp ⟨w,V.ids (wsS wb T x t f o s xd v)⟩ (wsS wb T x t (pStep k a v t f).2.2 z.2 z.1 xd (pStep k a v t f).2.1) w':=by
 have hB:=hH.B
 rcases k with _|_|_|_|_|_|k
 ·exact penter_g wb T x t f o s xd v th n a hG hF hB hH.inn.ck w hs
 ·exact pfind_g wb T x t f o s xd v th n a hG hF hB hH.inn.tb (by have:=hH.inn.t;have:=hH.m;omega) hH.ks w hs
 ·exact pread_g wb T x t f o s xd v th n a hG hF hB w hs
 ·exact ptakes_g wb T x t f o s xd v th n a hG hF hB w hs
 ·exact pwrite_g wb T x t f o s xd v th n a hG hF hB w hs
 ·exact ppub_g wb T x t f o s xd v th n a hG hF hB m n0 hH.inn hH.ids hH.m hH.n0 hH.th hH.ep w hs
 ·exact pleave_g wb T x t f o s xd v th n a hG hF hB w hs
theorem pphases_g (w:World):Calls Tryz.prog 247 [].toArray w fun e w'=>e= .returned (.agg phV.toArray)∧Below w.heap.size w w':=by
 refine V.calls [] Tryz.func247 rfl Tryz.ntmps247 (Nat.le_of_ble_eq_true rfl) (V.sat_nil _)<|Sq<|Rg<|Le AA fun b0 _=>Nl<|Ps<|Sq<|Rg<|Lv (Val.buildArr phV Tryz.zeroValue389 Tryz.underlying389 Tryz.sizeOf388 rfl rfl)<|LeN (StW (cs:=phV)) fun _ _=>Nl<|Ps<|Rt<|PQ.retC (l:=phV) rfl rfl (by repeat(first|exact .here|exact .inner .here|exact .inner (.inner .here)|refine .there ?_)) Tryz.isAgg389 (by exact Tryz.sizeOf389) ?_
 intro w' hw;exact⟨rfl,hw.below⟩
theorem point_g (x:ArR)(t:Int)(f:Frm)(o:FrO)(s:ArS)(xd:DvR)(v:Dev)(th n m n0:Nat)(a:AS)(hG:ArG th n x s a)(hF:FrOk f o)(hH:StH th n m n0 a f)(w:World)(hs:Sat (frS f o++(arS x s xd.db++vS xd v)) w):Calls Tryz.prog 212 [.pointer (some ⟨x.a,0,none⟩),.int .i64 t,.agg (frC f o).toArray].toArray w fun e w'=>∃z:ArS×FrO,(ArG th n x z.1 (pointA a v t f).1∧FrOk (pointA a v t f).2.2 z.2)∧e= .returned (.agg (frC (pointA a v t f).2.2 z.2).toArray)∧Hp ⟨w,V.ids ((frS f o++(arS x s xd.db++vS xd v)))⟩ (frS (pointA a v t f).2.2 z.2++(arS x z.1 xd.db++vS xd (pointA a v t f).2.1)) w':=by
 have hgz:o.gz.length=f.g.length:=by rw[← hF.gz,List.length_map]
 obtain⟨gp,gc,hvg,_,hsg⟩:=own_slg (e:=91) kzC_len o.gz o.go hF.go
 obtain⟨bp,bc,hvb,_,_,hsb⟩:=own_src hF.bo
 obtain⟨pp,pc,hvp,_,hsp⟩:=own_slg (e:=192) ptC_len f.pa o.po hF.po
 obtain⟨sp,sc,hvs,_,hss⟩:=own_slg (e:=122) prC_len f.an.ps o.so hF.so
 obtain⟨hp,hc,hvh,_,hsh⟩:=own_slg (e:=4) boC_len f.an.hs o.ho hF.ho
 rw[hgz] at hvg
 have hfi:frC f o=fiC f ⟨o.gz,gp,gc,bp,bc,pp,pc,sp,sc,hp,hc⟩:=by
  unfold frC fiC anC
  rw[hvg,hvb,hvp,hvs,hvh]
 refine V.calls (frS f o++(arS x s xd.db++vS xd v)) Tryz.func212 rfl Tryz.ntmps212 (Nat.le_of_ble_eq_true rfl) hs<|Sq<|Rg<|Le XA fun b5 _=>Le AA fun b6 _=>Nl<|Ps<|Sq<|Rg<|Lv Mv<|Lv Mv<|Lv (Lw (l:=frC f o))<|LW.re 11 (.agg (fiC f ⟨o.gz,gp,gc,bp,bc,pp,pc,sp,sc,hp,hc⟩).toArray) rfl (by rw[hfi])<|Le (CM [] fun w hw hs0=>fclone_g f ⟨o.gz,gp,gc,bp,bc,pp,pc,sp,sc,hp,hc⟩ hH.sz w ⟨hF.gz,hsg hw (by repeat(first|exact .nil|apply Pick.cons|exact .here|apply Ext.there)),hsb hw (by repeat(first|exact .nil|apply Pick.cons|exact .here|apply Ext.there)),hsp hw (by repeat(first|exact .nil|apply Pick.cons|exact .here|apply Ext.there)),hss hw (by repeat(first|exact .nil|apply Pick.cons|exact .here|apply Ext.there)),hsh hw (by repeat(first|exact .nil|apply Pick.cons|exact .here|apply Ext.there))⟩) fun o2 ho2=>Lv (Bd (wkC x t f o2) (hf:=by kernel_rfl))<|Le XA fun b14 _=>Lv Av<|Nl<|Ps<|Sq<|Rg<|Le (CV fun w hw=>pphases_g w) fun _ _=>Le AA fun b8 _=>LeN (StW (cs:=phV)) fun _ _=>Nl<|Ps<|Sq<|Sq ?_
 refine CW.regJoin (fun _:Unit=>True) (fun _=>[(0,.pointer (some ⟨x.a,0,none⟩)),(1,.int .i64 t),(5,.pointer (some ⟨b5,0,none⟩)),(6,.pointer (some ⟨b6,0,none⟩)),(7,.pointer (some ⟨b14,0,none⟩)),(8,.pointer (some ⟨b8,0,none⟩)),(39,.bool (pBad f))]) (fun _=>[(b5,.cells (frC f o).toArray 101 (0,0))]::[(b8,.cells phV.toArray 389 (0,0))]::[(b6,.cells (frC fr0 fo0).toArray 101 (0,0))]::[(b14,.cells (wkC x t (f) (o2)).toArray 387 (0,0))]::(frS f o2++(arS x s xd.db++vS xd v))) ?_ ?_
 ·refine Rg<|Lv Mv<|Lv EP<|Lv Mv<|Lv (Fa 0 91)<|Lv (Fa 0 3)<|Lv (Ld (v:= .int .i64 f.c.k))<|Lv Cm<|Lv Pf<|Lv Mv ?_
  refine LW.split (d:=24) rfl (fun h24=>?_) (fun h24=>?_)
  ·replace h24:=bT h24
   refine Lp<|Lp<|Lp<|Lp<|Lv Pt<|Lv Mv<|Lp<|Lp<|Lp<|Lv Pt<|Lv Mv<|Lp<|Lp<|Lp<|Lv Pt<|Nl ?_
   refine PQ.joined (()) (trivial) (by exact⟨rfl,rfl,rfl,rfl,rfl,rfl,congrArg (fun b=>some (Value.bool b)) (by unfold pBad;rw[Bool.eq_iff_iff];simp only[eq_self,true_iff,Bool.or_eq_true,decide_eq_true_eq];omega),trivial⟩) (by repeat(first|exact .nil|apply Pick.cons|exact .here|apply Ext.there))
  ·replace h24:=bF h24
   refine Lv (Fa 0 91)<|Lv (Fa 0 3)<|Lv (Ld (v:= .int .i64 f.c.k))<|Lv Cm<|Lv Pf<|Lv Mv ?_
   refine LW.split (d:=30) rfl (fun h30=>?_) (fun h30=>?_)
   ·replace h30:=bT h30
    refine Lp<|Lp<|Lp<|Lv Pt<|Lv Mv<|Lp<|Lp<|Lp<|Lv Pt<|Nl ?_
    refine PQ.joined (()) (trivial) (by exact⟨rfl,rfl,rfl,rfl,rfl,rfl,congrArg (fun b=>some (Value.bool b)) (by unfold pBad;rw[Bool.eq_iff_iff];simp only[eq_self,true_iff,Bool.or_eq_true,decide_eq_true_eq];omega),trivial⟩) (by repeat(first|exact .nil|apply Pick.cons|exact .here|apply Ext.there))
   ·replace h30:=bF h30
    refine Lv (Fa 5 3)<|Lv (Ld (v:= .int .i64 f.ph))<|Lv Cm<|Lv Pf<|Lv Mv ?_
    refine LW.split (d:=35) rfl (fun h35=>?_) (fun h35=>?_)
    ·replace h35:=bT h35
     refine Lp<|Lp<|Lp<|Lv Pt<|Nl ?_
     refine PQ.joined (()) (trivial) (by exact⟨rfl,rfl,rfl,rfl,rfl,rfl,congrArg (fun b=>some (Value.bool b)) (by unfold pBad;rw[Bool.eq_iff_iff];simp only[eq_self,true_iff,Bool.or_eq_true,decide_eq_true_eq];omega),trivial⟩) (by repeat(first|exact .nil|apply Pick.cons|exact .here|apply Ext.there))
    ·replace h35:=bF h35
     refine Lv (Fa 5 3)<|Lv (Ld (v:= .int .i64 f.ph))<|Lv Cm<|Lv Pf<|Nl ?_
     refine PQ.joined (()) (trivial) (by exact⟨rfl,rfl,rfl,rfl,rfl,rfl,congrArg (fun b=>some (Value.bool b)) (by unfold pBad;rw[Bool.eq_iff_iff];simp only[eq_self,true_iff,Bool.or_eq_true,decide_eq_true_eq];omega),trivial⟩) (by repeat(first|exact .nil|apply Pick.cons|exact .here|apply Ext.there))
 ·intro _ _
  refine Ps ?_
  refine CW.cond rfl (fun h39=>?_) (fun h39=>?_)
  ·replace h39:=bT h39
   have h39:pBad f=true:=h39
   refine Sq<|Rg<|Lv Mv<|Lv Nz<|Lv (Fa 2 101)<|Lv (La (frC f o2) (r:=[]) (hl:=rfl))<|LeN (StW (cs:=frC (f) o2) (h1:=by simp only[frC,klC,anC,lkC,List.cons_append,List.nil_append,List.all_append,List.all_cons,List.all_nil,V.ownV_one,oneS,oneI,oneB,Bool.and_true])) fun _ _=>Nl<|Ps<|Rt<|Tr<|PQ.retC (l:=frC (f) o2) rfl rfl (by repeat(first|exact .here|exact .inner .here|exact .inner (.inner .here)|refine .there ?_)) Tryz.isAgg101 (by exact Tryz.sizeOf101) ?_
   have e1:pointA a v t f=(a,v,f):=if_pos h39
   rw[e1]
   intro w' hw;exact⟨(s,o2),⟨hG,ho2⟩,rfl,hw.pick (by repeat(first|exact .nil|apply Pick.cons|exact .here|apply Ext.there))⟩
  ·replace h39:=bF h39
   have h39:pBad f=false:=h39
   obtain⟨k,hk⟩:∃k:Nat,f.ph=k:=⟨f.ph.toNat,by unfold pBad at h39;simp at h39;omega⟩
   have hk7:k<7:=by unfold pBad at h39;simp at h39;omega
   refine Sk<|Ps<|Sq<|Rg<|Lv (Fa 5 3)<|Lv (Ld (v:= .int .i64 f.ph))<|LW.re 45 (.int .i64 (k:Nat)) rfl (by rw[hk])<|Lv (Val.indexAddrA (i:=k) rfl rfl Tryz.underlying389 Tryz.sizeOf388 (by omega))<|Lv (Ld (v:= .func (.func (phP k)) #[] #[]) (hl:=phV_at hk7))<|Lv Mv<|Le (Eff.callFM (f:=(phP k)) (caps:=[]) ((wsS b14 387 x t f o2 s xd v)) (by repeat(first|exact .nil|apply Pick.cons|exact .here|apply Ext.there)) rfl rfl (call_ph k) (fun w hw hs0=>pwork_g k b14 387 x t f o2 s xd v th n m n0 a hG ho2 hH w hs0)) fun z hz=>Nl<|Ps<|Sq<|Rg<|Lv Mv<|Lv Nz<|Lv (Fa 2 101)<|Lv (La (frC (pStep k a v t f).2.2 z.2) (r:=[]) (hl:=rfl))<|LeN (StW (cs:=frC ((pStep k a v t f).2.2) z.2) (h1:=by simp only[frC,klC,anC,lkC,List.cons_append,List.nil_append,List.all_append,List.all_cons,List.all_nil,V.ownV_one,oneS,oneI,oneB,Bool.and_true])) fun _ _=>Nl<|Ps<|Rt<|PQ.retC (l:=frC ((pStep k a v t f).2.2) z.2) rfl rfl (by repeat(first|exact .here|exact .inner .here|exact .inner (.inner .here)|refine .there ?_)) Tryz.isAgg101 (by exact Tryz.sizeOf101) ?_
   have e1:pointA a v t f=pStep k a v t f:=(if_neg (by rw[h39];decide)).trans (by rw[hk];rfl)
   rw[e1]
   intro w' hw;exact⟨z,hz,rfl,hw.pick (ss:=frS (pStep k a v t f).2.2 z.2++(arS x z.1 xd.db++vS xd (pStep k a v t f).2.1)) (by repeat(first|exact .nil|apply Pick.cons|exact .here|apply Ext.there))⟩
end G
end Go.Proofs.YtpjmdbifacijoaaGreatDoor
namespace Go.Proofs.YtpjmdbifacijoaaGreatDoor
open Go Go.RowKit V
set_option linter.unusedVariables false
set_option maxRecDepth 100000
namespace G
open V (str byC ownV ownG ownS ownOk)
structure FrOkW (f:Frm)(o:FrO):Prop where
 gz:o.gz.map Prod.fst=f.g
 go:ownOk 5 o.gz.length (o.gz.flatMap kzC) o.go
 bo:ownOk 1 f.bs.length (byC f.bs) o.bo
 po:ownOk 8 f.pa.length (f.pa.flatMap ptC) o.po
 so:o.so=none→f.an.ps=[]
 ho:ownOk 1 f.an.hs.length (f.an.hs.flatMap boC) o.ho
theorem FrOk.w {f:Frm}{o:FrO}(h:FrOk f o):FrOkW f o:=⟨h.gz,h.go,h.bo,h.po,fun hn=>by have h8:=h.so;rw[hn] at h8;exact List.length_eq_zero_iff.1 h8.2,h.ho⟩
theorem own_some3 {sz n:Nat}{xs:List Value}{o:V.OwnO}(h:ownOk sz n xs o)(hn:0<n):∃g rest cap,o=some (g,rest,cap)∧xs.length+rest.length=cap*sz:=by
 rcases o with _|⟨g,rest,cap⟩
 ·exact absurd h.2 (by omega)
 ·exact⟨g,rest,cap,rfl,h.2⟩
theorem splice_mid2:∀(cs p y q:List Value) (j:Nat),j+cs.length≤y.length→V.splice (p++(y++q)) (p.length+j) cs=p++(V.splice y j cs++q)
 |[],p,y,q,j,_=>rfl
 |v::r,p,y,q,j,h=>by
  rw[List.length_cons] at h
  show V.splice ((p++(y++q)).set (p.length+j) v) (p.length+j+1) r=p++(V.splice (y.set j v) (j+1) r++q)
  rw[List.set_append_right _ _ (by omega),Nat.add_sub_cancel_left,List.set_append_left _ _ (by omega),Nat.add_assoc]
  exact splice_mid2 r p (y.set j v) q (j+1) (by rw[List.length_set];omega)
theorem spl_at {α:Type}{enc:α→List Value}{k:Nat}(hk:∀x,(enc x).length=k){l:List α}{i:Nat}{x x':α}(hx:l[i]? =some x){j:Nat}{cs rest:List Value}(hj:j+cs.length≤k)(he:V.splice (enc x) j cs=enc x'):V.splice (l.flatMap enc++rest) (0+i*k+j) cs=(l.set i x').flatMap enc++rest:=by
 obtain⟨hi,hx⟩:=List.getElem?_eq_some_iff.1 hx
 obtain⟨p,q,rfl,hp⟩:∃p q,l=p++x::q∧p.length=i:=⟨l.take i,l.drop (i+1),by rw[← hx,← List.drop_eq_getElem_cons hi,List.take_append_drop],by simp;omega⟩
 subst hp
 have h1:(p.flatMap enc).length=p.length*k:=V.flatMap_len hk p
 have h2:=splice_mid2 cs (p.flatMap enc) (enc x) (q.flatMap enc++rest) j (by rw[hk];exact hj)
 rw[h1,he] at h2
 rw[Nat.zero_add,List.set_append_right _ _ (Nat.le_refl _),Nat.sub_self]
 simpa using h2
theorem get_at {α:Type}{enc:α→List Value}{k:Nat}(hk:∀x,(enc x).length=k){l:List α}{i:Nat}{x:α}(hx:l[i]? =some x){j:Nat}{v:Value}{rest:List Value}(hv:(enc x)[j]? =some v):(l.flatMap enc++rest)[0+i*k+j]? =some v:=by
 have hj:j<k:=by rw[← hk x];exact(List.getElem?_eq_some_iff.1 hv).1
 have hi:=(List.getElem?_eq_some_iff.1 hx).1
 obtain⟨r,hr⟩:=V.drop_flatMap hk l i x hx
 have h1:i*k+j<(l.flatMap enc).length:=by
  rw[V.flatMap_len hk]
  calc i*k+j<i*k+k:=by omega
   _=(i+1)*k:=(Nat.succ_mul i k).symm
   _≤l.length*k:=Nat.mul_le_mul_right k hi
 rw[Nat.zero_add,List.getElem?_append_left h1,← List.getElem?_drop,hr,List.getElem?_append_left (by rw[hk];exact hj)]
 exact hv
theorem drop_at {α:Type}{enc:α→List Value}{k:Nat}(hk:∀x,(enc x).length=k){l:List α}{i:Nat}{x:α}(hx:l[i]? =some x)(rest:List Value):∃r,(l.flatMap enc++rest).drop (0+i*k)=enc x++r:=by
 obtain⟨r,hr⟩:=V.drop_flatMap hk l i x hx
 have hi:=(List.getElem?_eq_some_iff.1 hx).1
 exact⟨r++rest,by rw[Nat.zero_add,List.drop_append_of_le_length (by rw[V.flatMap_len hk];exact Nat.mul_le_mul_right k (by omega)),hr,List.append_assoc]⟩
theorem spl_set {α:Type}{enc:α→List Value}{k:Nat}(hk:∀x,(enc x).length=k){l:List α}{i:Nat}(hi:i<l.length){x y:α}{j:Nat}{cs rest:List Value}(hj:j+cs.length≤k)(he:V.splice (enc x) j cs=enc y):V.splice ((l.set i x).flatMap enc++rest) (0+i*k+j) cs=(l.set i y).flatMap enc++rest:=by
 have h8:=spl_at (l:=l.set i x) (i:=i) (x:=x) (x':=y) (rest:=rest) hk (List.getElem?_set_self hi) hj he
 rw[List.set_set] at h8
 exact h8
theorem places87:∀w,((Array.mapM (fun(f:Field)=>do pure (f.offset,← sizeOf f.type)) (Tryz.prog.fieldsOf 87):Sem (Array (Nat×Nat)))).run Tryz.prog w= .ok [(0,1),(1,1)].toArray w:=by
 intro w;kernel_rfl
instance:Zer Tryz.prog 87 (zOf Tryz.zeroValue87):=⟨Tryz.zeroValue87⟩
instance:Plc Tryz.prog 87 (fOf Tryz.underlying87) (lOf (P:=Tryz.prog) places87):=⟨places87,Tryz.underlying87⟩
structure Kpr where
 ph:Int
 left:Int
 deriving DecidableEq
def kpC (k:Kpr):List Value:=[.int .i64 k.ph,.int .i64 k.left]
end G
end Go.Proofs.YtpjmdbifacijoaaGreatDoor
namespace Go.Proofs.YtpjmdbifacijoaaGreatDoor.V
open Go Go.RowKit
set_option linter.unusedVariables false
section
variable {P:Program}{n:Nat}{B:Base}{ks:Ks}{sg:Sg}{d:Option Tmp}{ty:TypeId}{pos:String}{aft:Array Edge}{g:Option (Nat×Bool)}
theorem Val.field1 {t:TypeId}{x:Operand}{i:Nat}{fs:Array Field}{f:Field}{cs:List Value}{v:Value}(off:Nat)(hx:ev ks x=some (.agg cs.toArray))(hu:P.underlying t=some (.struct fs))(hf:fs[i]? =some f)(ho:f.offset=off)(ha:∀w,(isAgg f.type).run P w= .ok false w)(hv:cs[off]? =some v):
 Val P n B ⟨d,.field t x i,ty,pos,aft,g⟩ ks sg v:=fun a w haa hw=>by
 show(do pure (Next.value (← Instr.field t (a.eval x) i)):Sem Next).run P w=_
 rw[haa.ev hx]
 refine run_value ?_
 subst ho
 simp[Instr.field,Sem.run_bind,run_underlying hu,hf,part,ha,hv,asAgg]
theorem Val.fieldA {t:TypeId}{x:Operand}{i m:Nat}{fs:Array Field}{f:Field}{cs:List Value}(cs':List Value)(off:Nat)(hx:ev ks x=some (.agg cs.toArray))(hu:P.underlying t=some (.struct fs))(hf:fs[i]? =some f)(ho:f.offset=off)(ha:∀w,(isAgg f.type).run P w= .ok true w)(hs:∀w,(sizeOf f.type).run P w= .ok m w)(hv:(cs.drop off).take m=cs'):
 Val P n B ⟨d,.field t x i,ty,pos,aft,g⟩ ks sg (.agg cs'.toArray):=fun a w haa hw=>by
 show(do pure (Next.value (← Instr.field t (a.eval x) i)):Sem Next).run P w=_
 rw[haa.ev hx]
 refine run_value ?_
 subst ho hv
 simp[Instr.field,Sem.run_bind,run_underlying hu,hf,part,ha,hs,asAgg,List.extract_toArray,List.extract_eq_take_drop]
end
end Go.Proofs.YtpjmdbifacijoaaGreatDoor.V
namespace Go.Proofs.YtpjmdbifacijoaaGreatDoor
open Go Go.RowKit V
set_option linter.unusedVariables false
set_option maxRecDepth 100000
namespace G
open V (str byC ownV ownG ownS ownOk)
theorem places101:∀w,((Array.mapM (fun(f:Field)=>do pure (f.offset,← sizeOf f.type)) (Tryz.prog.fieldsOf 101):Sem (Array (Nat×Nat)))).run Tryz.prog w= .ok [(0,5),(5,1),(6,1),(7,1),(8,1),(9,1),(10,1),(11,5),(16,1),(17,1),(18,1),(19,1),(20,1),(21,1),(22,6)].toArray w:=by
 intro w;kernel_rfl
instance:Und Tryz.prog 74 (dOf Tryz.underlying74):=⟨Tryz.underlying74⟩
instance:Siz Tryz.prog 74 (kOf Tryz.sizeOf74):=⟨Tryz.sizeOf74⟩
instance:AgT Tryz.prog 74:=⟨Tryz.isAgg74⟩
instance:Zer Tryz.prog 74 (zOf Tryz.zeroValue74):=⟨Tryz.zeroValue74⟩
instance:Und Tryz.prog 103 (dOf Tryz.underlying103):=⟨Tryz.underlying103⟩
instance:Zer Tryz.prog 103 (zOf Tryz.zeroValue103):=⟨Tryz.zeroValue103⟩
instance:Siz Tryz.prog 104 (kOf Tryz.sizeOf104):=⟨Tryz.sizeOf104⟩
instance:Siz Tryz.prog 106 (kOf Tryz.sizeOf106):=⟨Tryz.sizeOf106⟩
instance:AgF Tryz.prog 106:=⟨Tryz.isAgg106⟩
instance:Und Tryz.prog 108 (dOf Tryz.underlying108):=⟨Tryz.underlying108⟩
instance:Zer Tryz.prog 108 (zOf Tryz.zeroValue108):=⟨Tryz.zeroValue108⟩
instance:Plc Tryz.prog 101 (fOf Tryz.underlying101) (lOf (P:=Tryz.prog) places101):=⟨places101,Tryz.underlying101⟩
instance:Cal Tryz.prog 166:=⟨Tryz.call166⟩
structure Thr where
 busy:Bool
 f:Frm
 st:Int
 deriving DecidableEq
abbrev ThO:=Thr×FrO
def thr0:Thr:=⟨false,fr0,0⟩
def thrC (y:ThO):List Value:= .bool y.1.busy::(frC y.1.f y.2++[.int .i64 y.1.st])
theorem thrC_len (y:ThO):(thrC y).length=30:=rfl
structure Wc where
 lines:Int
 thn:Int
 rest:Int
 db:Nat
 a:Option Addr
 g:Option Addr
 k:Kpr
 L:List ThO
 steps:Int
 stores:Int
 ov:Value
 sv:Value
def wcP (W:Wc):List Value:=[.int .i64 W.lines,.int .i64 W.thn,.int .i64 W.rest,.pointer (some ⟨W.db,0,none⟩),.pointer W.a,.pointer W.g,.int .i64 W.k.ph,.int .i64 W.k.left]
def wcT (W:Wc):List Value:=[.int .i64 W.steps,.int .i64 W.stores,W.ov,W.sv]
def wcC (W:Wc):List Value:=wcP W++(W.L.flatMap thrC++wcT W)
theorem wcC_len {W:Wc}(h:W.L.length=4):(wcC W).length=132:=by
 unfold wcC
 rw[List.length_append,List.length_append,V.flatMap_len thrC_len,h];rfl
theorem wc_tl {W:Wc}(h:W.L.length=4){j:Nat}{v:Value}(hv:(wcT W)[j]? =some v):(wcC W)[0+(128+j)]? =some v:=by
 have h1:(W.L.flatMap thrC).length=120:=by rw[V.flatMap_len thrC_len,h]
 unfold wcC
 rw[List.getElem?_append_right (by show 8≤_;omega),show(wcP W).length=8 from rfl,List.getElem?_append_right (by omega),h1,show 0+(128+j)-8-120=j by omega]
 exact hv
theorem wc_ts {W W':Wc}(h:W.L.length=4){j:Nat}{v:Value}(hj:j<4)(hp:wcP W'=wcP W)(hL:W'.L=W.L)(ht:(wcT W).set j v=wcT W'):(wcC W).set (0+(128+j)) v=wcC W':=by
 have h1:(W.L.flatMap thrC).length=120:=by rw[V.flatMap_len thrC_len,h]
 unfold wcC
 rw[List.set_append_right _ _ (by show 8≤_;omega),show(wcP W).length=8 from rfl,List.set_append_right _ _ (by omega),h1,show 0+(128+j)-8-120=j by omega,ht,hp,hL]
theorem wc_get {W:Wc}{i:Nat}{y:ThO}(hy:W.L[i]? =some y){j:Nat}{v:Value}(hv:(thrC y)[j]? =some v):(wcC W)[8+i*30+j]? =some v:=by
 have h8:=get_at (rest:=wcT W) thrC_len hy hv
 unfold wcC
 rw[List.getElem?_append_right (by show 8≤_;omega),show(wcP W).length=8 from rfl,show 8+i*30+j-8=0+i*30+j by omega]
 exact h8
theorem wc_getf {W:Wc}{i:Nat}{y:ThO}(hy:W.L[i]? =some y){j:Nat}{v:Value}(hv:(frC y.1.f y.2++[.int .i64 y.1.st])[j]? =some v):(wcC W)[8+i*30+1+j]? =some v:=by
 have h8:=wc_get (W:=W) (j:=1+j) hy (v:=v) (by rw[Nat.add_comm];exact hv)
 rw[Nat.add_assoc (8+i*30)];exact h8
theorem wc_drop {W:Wc}{i:Nat}{y:ThO}(hy:W.L[i]? =some y):∃r,(wcC W).drop (8+i*30+1)=frC y.1.f y.2++r:=by
 obtain⟨r,hr⟩:=drop_at thrC_len hy (wcT W)
 refine⟨.int .i64 y.1.st::r,?_⟩
 have e:(wcC W).drop (8+i*30)=thrC y++r:=by
  unfold wcC
  rw[List.drop_append,List.drop_of_length_le (show(wcP W).length≤_ by show 8≤_;omega),List.nil_append,show(wcP W).length=8 from rfl,show 8+i*30-8=0+i*30 by omega]
  exact hr
 rw[← List.drop_drop,e]
 show frC y.1.f y.2++[.int .i64 y.1.st]++r=_
 rw[List.append_assoc];rfl
theorem wc_spl {W:Wc}{i:Nat}{y y':ThO}(hy:W.L[i]? =some y){j:Nat}{cs:List Value}(hj:j+cs.length≤30)(he:V.splice (thrC y) j cs=thrC y'):V.splice (wcC W) (8+i*30+j) cs=wcC {W with L:=W.L.set i y'}:=by
 have h8:=splice_mid2 cs (wcP W++(W.L.take i).flatMap thrC) (thrC y) ((W.L.drop (i+1)).flatMap thrC++wcT W) j (by rw[thrC_len];exact hj)
 obtain⟨hi,rfl⟩:=List.getElem?_eq_some_iff.1 hy
 have e:W.L=W.L.take i++W.L[i]::W.L.drop (i+1):=by rw[← List.drop_eq_getElem_cons hi,List.take_append_drop]
 have e1:(wcP W++(W.L.take i).flatMap thrC).length=8+i*30:=by rw[List.length_append,V.flatMap_len thrC_len,List.length_take,Nat.min_eq_left (by omega)];rfl
 have e2:wcC W=wcP W++(W.L.take i).flatMap thrC++(thrC W.L[i]++((W.L.drop (i+1)).flatMap thrC++wcT W)):=by
  have e4:W.L.flatMap thrC=(W.L.take i).flatMap thrC++(thrC W.L[i]++(W.L.drop (i+1)).flatMap thrC):=by
   conv=>lhs;rw[e]
   rw[List.flatMap_append,List.flatMap_cons]
  unfold wcC
  rw[e4]
  simp only[List.append_assoc]
 have e3:W.L.set i y'=W.L.take i++y'::W.L.drop (i+1):=by rw[List.set_eq_take_append_cons_drop,if_pos hi]
 rw[e2,← e1,h8,he]
 unfold wcC
 show _=wcP W++((W.L.set i y').flatMap thrC++wcT W)
 rw[e3,List.flatMap_append,List.flatMap_cons]
 simp only[List.append_assoc]
def thrE (W:Wc)(t:Int):Int:=if W.a.isNone=true then 9 else if t<0∨W.thn≤t then 1 else 0
def actW (W:Wc)(act:Int):Wc:=if act=3 then {W with stores:=W.stores+1} else W
theorem thread_g (wb:Nat)(W:Wc)(t:Int)(hth:W.thn≤4)(w:World)(hs:Sat [[(wb,.cells (wcC (W)).toArray 108 (0,0))]] w):Calls Tryz.prog 165 [.pointer (some ⟨wb,0,none⟩),.int .i64 t].toArray w fun e w'=>e= .returned (.tuple #[.pointer (if thrE W t=0 then some ⟨wb,8+t.toNat*30,none⟩ else none),.int .i64 (thrE W t)])∧Below w.heap.size w w':=by
 refine V.calls [[(wb,.cells (wcC (W)).toArray 108 (0,0))]] Tryz.func165 rfl Tryz.ntmps165 (Nat.le_of_ble_eq_true rfl) hs<|Sq<|Rg<|Lv Av<|Lv Av<|Nl<|Ps<|Sq<|Sq<|Rg<|Lv Mv<|Lv Nz<|Lv (Fa 4 81)<|Lv (Ld (v:= .pointer W.a))<|Lv (Val.eqP W.a.isNone rfl rfl Tryz.underlying81 (.inr ⟨rfl,rfl⟩))<|Nl<|Ps ?_
 refine CW.cond rfl (fun h10=>?_) (fun h10=>?_)
 ·replace h10:=bT h10
  have h10:W.a.isNone=true:=h10
  refine Sq<|Rg<|Lv Av<|Lv Av<|Nl<|Ps<|Rt<|Tr<|Rt2 ?_
  have e1:thrE W t=9:=if_pos h10
  rw[e1]
  intro w' hw;exact⟨rfl,hw.ro (by repeat(first|exact .nil|apply Pick.cons|exact .here|apply Ext.there)) hs⟩
 ·replace h10:=bF h10
  have h10:W.a.isNone=false:=h10
  refine Sk<|Ps<|Sq<|Sq<|Rg<|Lv Mv<|Lv Cm<|Lv Mv ?_
  refine LW.split (d:=13) rfl (fun h13=>?_) (fun h13=>?_)
  ·replace h13:=bT h13
   refine Lp<|Lp<|Lp<|Lp<|Lp<|Lp<|Lp<|Lv Pt<|Nl<|Ps<|Ct<|Sq<|Rg<|Lv Av<|Lv Av<|Nl<|Ps<|Rt<|Tr<|Rt2 ?_
   have e1:thrE W t=1:=(if_neg (by rw[h10];decide)).trans (if_pos (by omega))
   rw[e1]
   intro w' hw;exact⟨rfl,hw.ro (by repeat(first|exact .nil|apply Pick.cons|exact .here|apply Ext.there)) hs⟩
  ·replace h13:=bF h13
   refine Lv Mv<|Lv Mv<|Lv Nz<|Lv (Fa 0 74)<|Lv (Fa 1 3)<|Lv (Ld (v:= .int .i64 W.thn))<|Lv Cm<|Lv Pf<|Nl<|Ps ?_
   refine CW.cond rfl (fun h21=>?_) (fun h21=>?_)
   ·replace h21:=bT h21
    refine Sq<|Rg<|Lv Av<|Lv Av<|Nl<|Ps<|Rt<|Tr<|Rt2 ?_
    have e1:thrE W t=1:=(if_neg (by rw[h10];decide)).trans (if_pos (by omega))
    rw[e1]
    intro w' hw;exact⟨rfl,hw.ro (by repeat(first|exact .nil|apply Pick.cons|exact .here|apply Ext.there)) hs⟩
   ·replace h21:=bF h21
    refine Sk<|Ps<|Sq<|Rg<|Lv Mv<|Lv Mv<|LW.re 23 (.int .i64 (t.toNat:Nat)) rfl (by congr 1;omega)<|Lv Nz<|Lv (Fa 8 104)<|Lv (Val.indexAddrA (i:=t.toNat) rfl rfl Tryz.underlying104 Tryz.sizeOf103 (by omega))<|LW.re 26 (.pointer (some ⟨wb,8+t.toNat*30,none⟩)) rfl (by rfl)<|Lv Av<|Lv Av<|Nl<|Ps<|Rt<|Rt2 ?_
    have e1:thrE W t=0:=(if_neg (by rw[h10];decide)).trans (if_neg (by omega))
    rw[e1]
    intro w' hw;exact⟨rfl,hw.ro (by repeat(first|exact .nil|apply Pick.cons|exact .here|apply Ext.there)) hs⟩
def begV (c:Kal)(g:Value):List Value:=klC c g++([.int .i64 0,.int .u64 0,str [],.bool false,.int .i64 0,.bool false]++(lkC lk0++([.int .i64 (-1),.int .i64 0,.int .i64 0,.slice none 0 0,.int .i64 0,.slice none 0 0]++anC an0 none none)))
def begF (c:Kal)(g:List Kal):Frm:={fr0 with c:=c,g:=g,line:= -1}
theorem begF_C (c:Kal)(y:List Kz)(o:V.OwnO):begV c (ownV y.length o)=frC (begF c (y.map Prod.fst)) {fo0 with gz:=y,go:=o}:=by
 unfold begV frC
 rw[show(begF c (y.map Prod.fst)).g.length=y.length from List.length_map _];rfl
theorem begin0_g (c:Kal)(gp:Option Addr)(gc:Nat)(w:World):Calls Tryz.prog 166 [.agg (kzC (c,gp,gc)).toArray].toArray w fun e w'=>∃z:Option Addr×Nat,True∧e= .returned (.agg (begV c (.slice z.1 0 z.2)).toArray)∧Below w.heap.size w w':=by
 refine V.calls [] Tryz.func166 rfl Tryz.ntmps166 (Nat.le_of_ble_eq_true rfl) (V.sat_nil _)<|Sq<|Rg<|Le XA fun b1 _=>Le AA fun b2 _=>Nl<|Ps<|Sq<|Rg<|Lv (Fa 4 89)<|Lv (Ld (v:= .slice gp 0 gc))<|Le (CM [] fun w hw hs=>cloneKz_c [] gp gc (by simp) w (.inl rfl)) fun o ho=>?_
 obtain⟨z1,z2,hz⟩:∃z1 z2,ownV ([]:List Kz).length o= .slice z1 0 z2:=by
  rcases o with _|⟨g,r,cp⟩
  ·exact⟨none,0,rfl⟩
  ·exact⟨some ⟨g,0,none⟩,cp,rfl⟩
 refine LW.re 7 (.slice z1 0 z2) rfl hz<|Lv (Fa 4 89)<|LeN StS fun _ _=>Nl<|Ps<|Sq<|Sq<|Rg<|Lv (Fa 4 89)<|Lv (Ld (v:= .slice z1 0 z2))<|Lv Ln<|Lv Mv<|Nl<|Ps<|Bk<|CW.loopU 0<|Sq<|Rg<|Lv Cm<|Nl<|Ps<|Sq<|Cf<|Xt<|Te<|Te<|Bh<|Ps<|Sq<|Rg<|Lv (Lw (l:=kzC (c,z1,z2)))<|Lv (Bd (begV c (.slice z1 0 z2)) (hf:=by kernel_rfl))<|LeN (StW (cs:=begV c (.slice z1 0 z2))) fun _ _=>Nl<|Ps<|Rt<|PQ.retC (l:=begV c (.slice z1 0 z2)) rfl rfl (by repeat(first|exact .here|exact .inner .here|exact .inner (.inner .here)|refine .there ?_)) Tryz.isAgg101 (by exact Tryz.sizeOf101) ?_
 intro w' hw;exact⟨(z1,z2),trivial,rfl,hw.below⟩
theorem begin_g (c:Kal)(gl:List Kz)(gp:Option Addr)(gc:Nat)(hl:gl.length≤3000)(w:World)(h:V.slAt w gp 5 kzC gl):Calls Tryz.prog 166 [.agg (klC c (.slice gp gl.length gc)).toArray].toArray w fun e w'=>∃y:List Kz×V.OwnO,(y.1.map Prod.fst=gl.map Prod.fst∧ownOk 5 y.1.length (y.1.flatMap kzC) y.2)∧e= .returned (.agg (begV c (ownV y.1.length y.2)).toArray)∧Hp ⟨w,[]⟩ [ownG 91 ((y.1).flatMap kzC) y.2] w':=by
 refine V.calls [] Tryz.func166 rfl Tryz.ntmps166 (Nat.le_of_ble_eq_true rfl) (V.sat_nil _)<|Sq<|Rg<|Le XA fun b1 _=>Le AA fun b2 _=>Nl<|Ps<|Sq<|Rg<|Lv (Fa 4 89)<|Lv (Ld (v:= .slice gp gl.length gc))<|Le (CM [] fun w hw hs0=>cloneKz_c gl gp gc hl w (hw.slAt h (by simp[ids]))) fun o ho=>Lv (Fa 4 89)<|LeN (StS (h1:=V.ownV_one _ _)) fun _ _=>Nl<|Ps<|Sq<|Sq<|Rg<|Lv (Fa 4 89)<|Lv (Ld (v:=ownV gl.length o))<|Lv (Val.lenOwn rfl Tryz.underlying89 ho)<|Lv Mv<|Nl<|Ps<|Bk<|loopA (γ:=Nat×List Kz) (fun k=>[(1,.pointer (some ⟨b1,0,none⟩)),(2,.pointer (some ⟨b2,0,none⟩)),(10,ownV gl.length o),(11,.int .i64 (gl.length:Nat)),(12,.int .i64 (k.1:Nat))]) (fun k=>[[(b1,.cells (klC c (ownV gl.length o)).toArray 91 (0,0))],ownG 91 ((k.2).flatMap kzC) o,[(b2,.cells (frC fr0 fo0).toArray 101 (0,0))]]) (fun k=>k.1≤gl.length∧k.2.map Prod.fst=gl.map Prod.fst∧ownOk 5 k.2.length (k.2.flatMap kzC) o) (fun k=>gl.length-k.1) ((0,gl)) ⟨Nat.zero_le _,rfl,ho⟩ fun k=>?_
 rintro⟨hk1,hk2,hk3⟩
 have hkn:k.2.length=gl.length:=by have:=congrArg List.length hk2;simpa using this
 refine Sq<|Rg<|Lv Cm<|Nl<|Ps<|Sq ?_
 refine CW.cond rfl (fun h13=>?_) (fun h13=>?_)
 ·replace h13:=bT h13
  have hkl:k.1<k.2.length:=by omega
  obtain⟨y,hy⟩:∃y,k.2[k.1]? =some y:=⟨k.2[k.1]'hkl,by simp⟩
  obtain⟨g,rest,cap,rfl⟩:=kz_own (L:=k.2) hk3 hkl
  obtain⟨r9,hr9⟩:=drop_at kzC_len hy rest
  have hgn:gl.length=k.2.length:=by have:=congrArg List.length hk2;simpa using this.symm
  refine Sk<|Ps<|Sq<|Bk<|Sq<|Rg<|Lv Mv<|Lv (Val.indexAddrN (i:=k.1) rfl rfl Tryz.underlying89 Tryz.sizeOf91 (by omega))<|Lv (La (kzC y) (r:=r9) (hl:=hr9))<|Le AA fun b4 _=>Lv Av<|LeN (StW (cs:=kzC y)) fun _ _=>Nl<|Ps<|Dr ([[(b1,.cells (klC c (.slice (some ⟨g,0,none⟩) gl.length cap)).toArray 91 (0,0))],[(b4,.cells (kzC y).toArray 91 (0,0))]])<|Rv 0 rfl (Fa 4 89)<|Rv 1 rfl (Ld (v:= .slice (some ⟨g,0,none⟩) gl.length cap))<|Rv 2 rfl Mv<|Rv 3 rfl (Lw (l:=kzC y))<|Re 4 rfl (CR fun w hw=>begin0_g y.1 y.2.1 y.2.2 w) fun z _=>Rv 5 rfl (V.Val.fieldA (klC y.1 (.slice z.1 0 z.2)) 0 rfl Tryz.underlying101 (by rfl) rfl Tryz.isAgg91 Tryz.sizeOf91 (by rfl))<|Rv 6 rfl (V.Val.field1 4 rfl Tryz.underlying91 (by rfl) rfl Tryz.isAgg89 (by rfl))<|Rv 7 rfl (Val.indexAddrN (i:=k.1) rfl rfl Tryz.underlying89 Tryz.sizeOf91 (by omega))<|Rv 8 rfl (Fa 4 89)<|ReN 9 rfl (Eff.storeX (v:= .slice z.1 0 z.2) (l:=k.2.flatMap kzC++rest) (l':=(k.2.set k.1 (y.1,z)).flatMap kzC++rest) rfl rfl rfl (by repeat(first|exact .here|exact .inner .here|exact .inner (.inner .here)|apply Upd.there)) (spl_at (x':=(y.1,z)) kzC_len hy (cs:=[.slice z.1 0 z.2]) (Nat.le_of_ble_eq_true rfl) rfl) (by rw[List.length_append,V.flatMap_len kzC_len];omega) Tryz.sizeOf89) fun _ _=>Rd<|Bn<|Ps<|Rg<|Lv Ar<|Lv Mv<|Nl ?_
  refine PQ.round ((k.1+1,(k.2.set k.1 (y.1,z)))) ⟨by simp only;omega,by simp only;rw[List.map_set,show((y.1,z):Kz).1=y.1 from rfl,set_same (by rw[List.getElem?_map,hy];rfl)];exact hk2,by
   simp only
   refine⟨V.flatMap_len kzC_len _,?_⟩
   have h8:=hk3.2
   simp only[V.flatMap_len kzC_len,List.length_set] at h8⊢
   exact h8⟩ (by simp only;omega) (by repeat(first|exact trivial|refine⟨rfl,?_⟩)) (by repeat(first|exact .nil|apply Pick.cons|exact .here|apply Ext.there))
 ·replace h13:=bF h13
  refine Xt<|Te<|Te<|Bh<|Ps<|Sq<|Rg<|Lv (Lw (l:=klC c (ownV gl.length o)))<|Lv (Bd (begV c (ownV gl.length o)) (hf:=by kernel_rfl))<|LeN (StW (cs:=begV c (ownV gl.length o)) (h1:=by simp only[begV,klC,anC,an0,lkC,List.cons_append,List.nil_append,List.all_append,List.all_cons,List.all_nil,V.ownV_one,oneS,oneI,oneB,Bool.and_true];rfl)) fun _ _=>Nl<|Ps<|Rt<|PQ.retC (l:=begV c (ownV gl.length o)) rfl rfl (by repeat(first|exact .here|exact .inner .here|exact .inner (.inner .here)|refine .there ?_)) Tryz.isAgg101 (by exact Tryz.sizeOf101) ?_
  intro w' hw;exact⟨(k.2,o),⟨hk2,hk3⟩,by rw[hkn],hw.pick (by repeat(first|exact .nil|apply Pick.cons|exact .here|apply Ext.there))⟩
theorem places129:∀w,((Array.mapM (fun(f:Field)=>do pure (f.offset,← sizeOf f.type)) (Tryz.prog.fieldsOf 129):Sem (Array (Nat×Nat)))).run Tryz.prog w= .ok [(0,1),(1,5),(6,6),(12,1),(13,1)].toArray w:=by
 intro w;kernel_rfl
instance:Und Tryz.prog 111 (dOf Tryz.underlying111):=⟨Tryz.underlying111⟩
instance:Siz Tryz.prog 111 (kOf Tryz.sizeOf111):=⟨Tryz.sizeOf111⟩
instance:AgT Tryz.prog 111:=⟨Tryz.isAgg111⟩
instance:Zer Tryz.prog 111 (zOf Tryz.zeroValue111):=⟨Tryz.zeroValue111⟩
instance:Und Tryz.prog 129 (dOf Tryz.underlying129):=⟨Tryz.underlying129⟩
instance:Zer Tryz.prog 129 (zOf Tryz.zeroValue129):=⟨Tryz.zeroValue129⟩
instance:Plc Tryz.prog 129 (fOf Tryz.underlying129) (lOf (P:=Tryz.prog) places129):=⟨places129,Tryz.underlying129⟩
instance:Cal Tryz.prog 165:=⟨Tryz.call165⟩
structure Evt where
 k:Int
 th:Int
 line:Int
 c:Kal
def evC (ev:Evt)(gv kv:Value):List Value:= .int .i64 ev.k:: .int .i64 ev.th:: .int .i64 ev.line::(klC ev.c gv++[kv])
structure Sto where
 th:Int
 c:Kal
 g:List Kal
 an:Ans
 b:Int
 e:Int
 deriving DecidableEq
structure StM where
 gz:List Kz
 go:V.OwnO
 so:V.OwnO
 ho:V.OwnO
abbrev StoO:=Sto×StM
def stoC (y:StoO):List Value:= .int .i64 y.1.th::(klC y.1.c (ownV y.2.gz.length y.2.go)++(anC y.1.an y.2.so y.2.ho++[.int .i64 y.1.b,.int .i64 y.1.e]))
theorem stoC_one (y:StoO):(stoC y).all (·.oneCell')=true:=by simp only[stoC,klC,anC,List.cons_append,List.nil_append,List.all_append,List.all_cons,List.all_nil,V.ownV_one,oneS,oneI,oneB,Bool.and_true]
theorem stoC_len (y:StoO):(stoC y).length=14:=rfl
theorem wc_spl2 {W:Wc}{i:Nat}(hi:i<W.L.length){y y':ThO}{j:Nat}{cs:List Value}(hj:j+cs.length≤30)(he:V.splice (thrC y) j cs=thrC y'):V.splice (wcC {W with L:=W.L.set i y}) (8+i*30+j) cs=wcC {W with L:=W.L.set i y'}:=by
 have h8:=wc_spl (W:={W with L:=W.L.set i y}) (y':=y') (List.getElem?_set_self hi) hj he
 rw[h8,List.set_set]
theorem thr_f (y:ThO)(f:Frm)(o:FrO):V.splice (thrC y) 1 (frC f o)=thrC (⟨y.1.busy,f,y.1.st⟩,o):=splice_mid0 (frC f o) [.bool y.1.busy] (frC y.1.f y.2) [.int .i64 y.1.st] rfl
def busyW (W:Wc)(t:Int):Bool:=((W.L[t.toNat]?).map fun y=>y.1.busy).getD false
theorem thrE_yes {W:Wc}{t:Int}(h:thrE W t=0):W.a.isNone=false∧0≤t∧t<W.thn:=by
 unfold thrE at h
 split at h
 ·cases h
 ·split at h
  ·cases h
  ·rename_i h1 h2
   exact⟨by cases hq:W.a.isNone with|true=>exact absurd hq h1|false=>rfl,by omega,by omega⟩
def cSto (ev:Evt)(y:List Kz×V.OwnO)(n:Int):StoO:=(⟨ev.th,ev.c,y.1.map Prod.fst,an0,n,-1⟩,⟨y.1,y.2,none,none⟩)
def cThr (ev:Evt)(y:List Kz×V.OwnO)(n:Int):ThO:=(⟨true,begF ev.c (y.1.map Prod.fst),n⟩,{fo0 with gz:=y.1,go:=y.2})
theorem call_g (wb:Nat)(W:Wc)(hL:W.L.length=4)(hth:W.thn≤4)(ev:Evt)(gl:List Kz)(gp:Option Addr)(gc:Nat)(kv:Value)(hkv:kv.oneCell'=true)(v0:thrE W ev.th=0)(i:Nat)(hi:ev.th=i)(y:ThO)(hy:W.L[i]? =some y)(hb:y.1.busy=false)(Z:List StoO)(zo:V.OwnO)(hzo:ownOk 14 Z.length (Z.flatMap stoC) zo)(hsv:W.sv=ownV Z.length zo)(hZ:Z.length≤100000)(hst:0≤W.steps∧W.steps≤1000000000)(hgl:gl.length≤3000)(w:World)(h:V.slAt w gp 5 kzC gl)(hd:∀b o,gp=some ⟨b,o,none⟩→b∉V.ids ([[(wb,.cells (wcC (W)).toArray 108 (0,0))],ownG 129 (Z.flatMap stoC) zo]))(hs:Sat ([[(wb,.cells (wcC (W)).toArray 108 (0,0))],ownG 129 (Z.flatMap stoC) zo]) w):Calls Tryz.prog 126 [.pointer (some ⟨wb,0,none⟩),.agg (evC ev (.slice gp gl.length gc) kv).toArray].toArray w fun e w'=>∃z:(List Kz×V.OwnO)×(List Kz×V.OwnO)×V.OwnO,(z.1.1.map Prod.fst=gl.map Prod.fst∧ownOk 5 z.1.1.length (z.1.1.flatMap kzC) z.1.2∧z.2.1.1.map Prod.fst=gl.map Prod.fst∧ownOk 5 z.2.1.1.length (z.2.1.1.flatMap kzC) z.2.1.2∧ownOk 14 (Z.length+1) ((Z++[(cSto ev z.2.1 (W.steps+1))]).flatMap stoC) z.2.2)∧e= .returned (.int .i64 0)∧Hp ⟨w,V.ids (([[(wb,.cells (wcC (W)).toArray 108 (0,0))],ownG 129 (Z.flatMap stoC) zo]))⟩ (([[(wb,.cells (wcC ({W with L:=W.L.set i (cThr ev z.1 (Z.length:Nat)),sv:=ownV (Z.length+1) z.2.2})).toArray 108 (0,0))],ownG 91 ((z.1).1.flatMap kzC) (z.1).2,ownG 91 ((z.2.1).1.flatMap kzC) (z.2.1).2,ownG 129 ((Z++[(cSto ev z.2.1 (W.steps+1))]).flatMap stoC) z.2.2])) w':=by
 have hil:=(List.getElem?_eq_some_iff.1 hy).1
 refine V.calls ([[(wb,.cells (wcC (W)).toArray 108 (0,0))],ownG 129 (Z.flatMap stoC) zo]) Tryz.func126 rfl Tryz.ntmps126 (Nat.le_of_ble_eq_true rfl) hs<|Sq<|Rg<|Le XA fun b3 _=>Lv Av<|Nl<|Ps<|Sq<|Rg<|Lv Mv<|Lv (Fa 1 3)<|Lv (Ld (v:= .int .i64 ev.th))<|Le (CV fun w hw=>thread_g wb W ev.th hth w (hw.sat.pick (ss:=[[(wb,.cells (wcC (W)).toArray 108 (0,0))]]) (by repeat(first|exact .nil|apply Pick.cons|exact .here|apply Ext.there)))) fun _ _=>LW.re 11 (.tuple #[.pointer (some ⟨wb,8+i*30,none⟩),.int .i64 0]) rfl (by rw[v0,hi];rfl)<|Lv Mv<|Lv Ex<|Lv Ex<|Lv Av<|Lv Av<|Nl<|Ps<|Sq<|Sq<|Rg<|Lv Mv<|Lv Cm<|Nl<|Ps<|Cf<|Sk<|Ps<|Sq<|Sq<|Rg<|Lv Mv<|Lv Nz<|Lv (Fa 0 4)<|Lv (Ld (v:= .bool y.1.busy) (hl:=wc_get hy (j:=0) rfl))<|LW.re 20 (.bool false) rfl (by rw[hb])<|Nl<|Ps<|Cf<|Sk<|Ps<|Sq ?_
 refine CW.regJoin (fun z1:List Kz×V.OwnO=>z1.1.map Prod.fst=gl.map Prod.fst∧ownOk 5 z1.1.length (z1.1.flatMap kzC) z1.2) (fun _=>[(0,.pointer (some ⟨wb,0,none⟩)),(3,.pointer (some ⟨b3,0,none⟩))]) (fun z1=>[[(b3,.cells (evC ev (.slice gp gl.length gc) kv).toArray 111 (0,0))],[(wb,.cells (wcC ({W with L:=W.L.set i (cThr ev z1 (Z.length:Nat))})).toArray 108 (0,0))],ownG 91 ((z1).1.flatMap kzC) (z1).2,ownG 129 (Z.flatMap stoC) zo]) ?_ ?_
 ·refine Dr ([[(b3,.cells (evC ev (.slice gp gl.length gc) kv).toArray 111 (0,0))]])<|Rv 0 rfl Mv<|Rv 1 rfl Mv<|Rv 2 rfl Mv<|Rv 3 rfl (Fa 3 91)<|Rv 4 rfl (La (klC ev.c (.slice gp gl.length gc)) (hl:=rfl))<|Rv 6 rfl Mv<|Rv 7 rfl Nz<|Rv 8 rfl (Fa 131 106)<|RW.any [5,9] (by kernel_rfl) (by simp) fun i hi=>?_
  simp only[List.mem_cons,List.not_mem_nil,or_false] at hi
  rcases hi with rfl|rfl
  ·refine Ro rfl (CM [] fun w hw hs0=>begin_g ev.c gl gp gc hgl w (hw.slAt h hd)) fun z1 hz1=>Re 9 rfl (Eff.ofVal (Ld (v:=ownV Z.length zo) (hl:=by rw[wc_tl (j:=3) (by first|exact hL|(rw[List.length_set];exact hL)) rfl];exact congrArg some hsv))) fun _ _=>Rv 10 rfl (Val.lenOwn rfl Tryz.underlying106 hzo)<|Rv 11 rfl Nz<|Rv 12 rfl (Fa 0 4)<|ReN 13 rfl (Eff.storeX (v:= .bool true) (l:=wcC W) (l':=wcC {W with L:=W.L.set i ((⟨true,y.1.f,y.1.st⟩,y.2):ThO)}) rfl rfl rfl (by repeat(first|exact .here|exact .inner .here|exact .inner (.inner .here)|apply Upd.there)) (wc_spl hy (cs:=[.bool true]) (Nat.le_of_ble_eq_true rfl) rfl) (by rw[wcC_len (by first|exact hL|(rw[List.length_set];exact hL))];omega) Tryz.sizeOf4) fun _ _=>Rv 14 rfl Nz<|Rv 15 rfl (Fa 1 101)<|ReN 16 rfl (Eff.storeA (cs:=begV ev.c (ownV z1.1.length z1.2)) (l:=wcC {W with L:=W.L.set i ((⟨true,y.1.f,y.1.st⟩,y.2):ThO)}) (l':=wcC {W with L:=W.L.set i ((⟨true,begF ev.c (z1.1.map Prod.fst),y.1.st⟩,{fo0 with gz:=z1.1,go:=z1.2}):ThO)}) rfl rfl (by repeat(first|exact .here|exact .inner .here|exact .inner (.inner .here)|apply Upd.there)) (wc_spl2 hil (j:=1) (Nat.le_of_ble_eq_true rfl) (by rw[begF_C];exact thr_f _ _ _)) (by rw[wcC_len (by rw[List.length_set];exact hL)];show _+28≤_;omega) Tryz.sizeOf101 (by simp only[begV,klC,anC,an0,lkC,List.cons_append,List.nil_append,List.all_append,List.all_cons,List.all_nil,V.ownV_one,oneS,oneI,oneB,Bool.and_true];rfl)) fun _ _=>Rv 17 rfl Nz<|Rv 18 rfl (Fa 29 3)<|ReN 19 rfl (Eff.storeX (v:= .int .i64 (Z.length:Nat)) (l:=wcC {W with L:=W.L.set i ((⟨true,begF ev.c (z1.1.map Prod.fst),y.1.st⟩,{fo0 with gz:=z1.1,go:=z1.2}):ThO)}) (l':=wcC {W with L:=W.L.set i (cThr ev z1 (Z.length:Nat))}) rfl rfl rfl (by repeat(first|exact .here|exact .inner .here|exact .inner (.inner .here)|apply Upd.there)) (wc_spl2 hil (j:=29) (cs:=[.int .i64 (Z.length:Nat)]) (Nat.le_of_ble_eq_true rfl) rfl) (by rw[wcC_len (by first|exact hL|(rw[List.length_set];exact hL))];omega) Tryz.sizeOf3) ?_
   intro _ _
   refine Rd ?_
   refine PQ.joined (z1) (hz1) (by exact⟨rfl,rfl,trivial⟩) (by repeat(first|exact .nil|apply Pick.cons|exact .here|apply Ext.there))
  ·refine Ro rfl (Eff.ofVal (Ld (v:=ownV Z.length zo) (hl:=by rw[wc_tl (j:=3) (by first|exact hL|(rw[List.length_set];exact hL)) rfl];exact congrArg some hsv))) fun _ _=>Rv 10 rfl (Val.lenOwn rfl Tryz.underlying106 hzo)<|Re 5 rfl (CM [] fun w hw hs0=>begin_g ev.c gl gp gc hgl w (hw.slAt h hd)) fun z1 hz1=>Rv 11 rfl Nz<|Rv 12 rfl (Fa 0 4)<|ReN 13 rfl (Eff.storeX (v:= .bool true) (l:=wcC W) (l':=wcC {W with L:=W.L.set i ((⟨true,y.1.f,y.1.st⟩,y.2):ThO)}) rfl rfl rfl (by repeat(first|exact .here|exact .inner .here|exact .inner (.inner .here)|apply Upd.there)) (wc_spl hy (cs:=[.bool true]) (Nat.le_of_ble_eq_true rfl) rfl) (by rw[wcC_len (by first|exact hL|(rw[List.length_set];exact hL))];omega) Tryz.sizeOf4) fun _ _=>Rv 14 rfl Nz<|Rv 15 rfl (Fa 1 101)<|ReN 16 rfl (Eff.storeA (cs:=begV ev.c (ownV z1.1.length z1.2)) (l:=wcC {W with L:=W.L.set i ((⟨true,y.1.f,y.1.st⟩,y.2):ThO)}) (l':=wcC {W with L:=W.L.set i ((⟨true,begF ev.c (z1.1.map Prod.fst),y.1.st⟩,{fo0 with gz:=z1.1,go:=z1.2}):ThO)}) rfl rfl (by repeat(first|exact .here|exact .inner .here|exact .inner (.inner .here)|apply Upd.there)) (wc_spl2 hil (j:=1) (Nat.le_of_ble_eq_true rfl) (by rw[begF_C];exact thr_f _ _ _)) (by rw[wcC_len (by rw[List.length_set];exact hL)];show _+28≤_;omega) Tryz.sizeOf101 (by simp only[begV,klC,anC,an0,lkC,List.cons_append,List.nil_append,List.all_append,List.all_cons,List.all_nil,V.ownV_one,oneS,oneI,oneB,Bool.and_true];rfl)) fun _ _=>Rv 17 rfl Nz<|Rv 18 rfl (Fa 29 3)<|ReN 19 rfl (Eff.storeX (v:= .int .i64 (Z.length:Nat)) (l:=wcC {W with L:=W.L.set i ((⟨true,begF ev.c (z1.1.map Prod.fst),y.1.st⟩,{fo0 with gz:=z1.1,go:=z1.2}):ThO)}) (l':=wcC {W with L:=W.L.set i (cThr ev z1 (Z.length:Nat))}) rfl rfl rfl (by repeat(first|exact .here|exact .inner .here|exact .inner (.inner .here)|apply Upd.there)) (wc_spl2 hil (j:=29) (cs:=[.int .i64 (Z.length:Nat)]) (Nat.le_of_ble_eq_true rfl) rfl) (by rw[wcC_len (by first|exact hL|(rw[List.length_set];exact hL))];omega) Tryz.sizeOf3) ?_
   intro _ _
   refine Rd ?_
   refine PQ.joined (z1) (hz1) (by exact⟨rfl,rfl,trivial⟩) (by repeat(first|exact .nil|apply Pick.cons|exact .here|apply Ext.there))
 ·intro z1 hz1
  refine Ps<|Sq ?_
  refine CW.regJoin (fun q:(List Kz×V.OwnO)×V.OwnO=>q.1.1.map Prod.fst=gl.map Prod.fst∧ownOk 5 q.1.1.length (q.1.1.flatMap kzC) q.1.2∧ownOk 14 (Z.length+1) (Z.flatMap stoC++stoC (cSto ev q.1 (W.steps+1))) q.2) (fun _=>[]) (fun q=>[[(wb,.cells (wcC ({W with L:=W.L.set i (cThr ev z1 (Z.length:Nat)),sv:=ownV (Z.length+1) q.2})).toArray 108 (0,0))],ownG 91 ((z1).1.flatMap kzC) (z1).2,ownG 91 ((q.1).1.flatMap kzC) (q.1).2,ownG 129 (Z.flatMap stoC++stoC (cSto ev q.1 (W.steps+1))) q.2]) ?_ ?_
  ·refine Dr ([[(b3,.cells (evC ev (.slice gp gl.length gc) kv).toArray 111 (0,0))]])<|Rv 0 rfl Mv<|Rv 1 rfl Mv<|Rv 2 rfl Nz<|Rv 3 rfl (Fa 131 106)<|Rv 5 rfl (Fa 1 3)<|Rv 6 rfl (Ld (v:= .int .i64 ev.th))<|Rv 7 rfl (Fa 3 91)<|Rv 8 rfl (La (klC ev.c (.slice gp gl.length gc)) (hl:=rfl))<|Rv 10 rfl Mv<|Rv 11 rfl Nz<|Rv 12 rfl (Fa 128 3)<|RW.any [4,9,13] (by kernel_rfl) (by simp) fun i hi=>?_
   simp only[List.mem_cons,List.not_mem_nil,or_false] at hi
   rcases hi with rfl|rfl|rfl
   ·refine Ro rfl (Eff.ofVal (Ld (v:=ownV Z.length zo) (hl:=by rw[wc_tl (W:={W with L:=W.L.set i (cThr ev z1 (Z.length:Nat))}) (j:=3) (by rw[List.length_set];exact hL) rfl];exact congrArg some hsv))) fun _ _=>RW.any [9,13] (by kernel_rfl) (by simp) fun i hi=>?_
    simp only[List.mem_cons,List.not_mem_nil,or_false] at hi
    rcases hi with rfl|rfl
    ·refine Ro rfl (CM [] fun w hw hs0=>fcall_g ev.c gl gp gc hgl w (hw.slAt h hd)) fun z2 hz2=>Re 13 rfl (Eff.ofVal (Ld (v:= .int .i64 W.steps) (hl:=wc_tl (W:={W with L:=W.L.set i (cThr ev z1 (Z.length:Nat))}) (j:=0) (by rw[List.length_set];exact hL) rfl))) fun _ _=>Rv 14 rfl Ar<|Rv 15 rfl (Bd (stoC (cSto ev z2 (W.steps+1))))<|Re 16 rfl (Eff.buildSlice (rfl) [_,_,_,_,_,_,_,_,_,_,_,_,_,_] Tryz.underlying106 Tryz.sizeOf129 (by exact Tryz.zeroValue129) rfl rfl rfl rfl (by rfl)) fun b54 _=>Re 17 rfl (Eff.appendAny (stoC (cSto ev z2 (W.steps+1))) (sz:=14) (bytes:=192) (z:= .agg #[.int .i64 0,.int .i64 0,.string ⟨#[]⟩,.string ⟨#[]⟩,.string ⟨#[]⟩,.slice none 0 0,.int .i64 0,.bool false,.string ⟨#[]⟩,.slice none 0 0,.slice none 0 0,.int .u64 0,.int .i64 0,.int .i64 0]) (xs:=Z.flatMap stoC) (m0:=Z.length) (o:=zo) (m:=1) (pk:=[ownG 129 (Z.flatMap stoC) (zo)]) rfl rfl Tryz.underlying106 (by kernel_rfl) rfl (by omega) (by repeat(first|exact .nil|apply Pick.cons|exact .here|apply Ext.there)) (by simp) hzo (by rfl) (fun hm0=>⟨b54,0,rfl,fun w hw=>V.range_of_block (o:=0) (cs:=stoC (cSto ev z2 (W.steps+1))) (r:=[]) (hw.own _ (show InS (b54,.cells (stoC (cSto ev z2 (W.steps+1))).toArray 129 (0,0)) _ from(by repeat(first|exact .here|exact .inner .here|exact .inner (.inner .here)|refine .there ?_))).mem) rfl⟩) (stoC_one _) (by omega) (by omega)) fun o3 ho3=>Rv 18 rfl Nz<|Rv 19 rfl (Fa 131 106)<|ReN 20 rfl (Eff.storeX (v:=ownV (Z.length+1) o3) (l:=wcC {W with L:=W.L.set i (cThr ev z1 (Z.length:Nat))}) (l':=wcC {W with L:=W.L.set i (cThr ev z1 (Z.length:Nat)),sv:=ownV (Z.length+1) o3}) rfl rfl (V.ownV_one _ _) (by repeat(first|exact .here|exact .inner .here|exact .inner (.inner .here)|apply Upd.there)) (wc_ts (j:=3) (by rw[List.length_set];exact hL) (by omega) rfl rfl rfl) (by rw[wcC_len (by first|exact hL|(rw[List.length_set];exact hL))];omega) Tryz.sizeOf106) ?_
     intro _ _
     refine Rd ?_
     refine PQ.joined ((z2,o3)) (⟨hz2.1,hz2.2,ho3⟩) (by exact trivial) (by repeat(first|exact .nil|apply Pick.cons|exact .here|apply Ext.there))
    ·refine Ro rfl (Eff.ofVal (Ld (v:= .int .i64 W.steps) (hl:=wc_tl (W:={W with L:=W.L.set i (cThr ev z1 (Z.length:Nat))}) (j:=0) (by rw[List.length_set];exact hL) rfl))) fun _ _=>Rv 14 rfl Ar<|Re 9 rfl (CM [] fun w hw hs0=>fcall_g ev.c gl gp gc hgl w (hw.slAt h hd)) fun z2 hz2=>Rv 15 rfl (Bd (stoC (cSto ev z2 (W.steps+1))))<|Re 16 rfl (Eff.buildSlice (rfl) [_,_,_,_,_,_,_,_,_,_,_,_,_,_] Tryz.underlying106 Tryz.sizeOf129 (by exact Tryz.zeroValue129) rfl rfl rfl rfl (by rfl)) fun b54 _=>Re 17 rfl (Eff.appendAny (stoC (cSto ev z2 (W.steps+1))) (sz:=14) (bytes:=192) (z:= .agg #[.int .i64 0,.int .i64 0,.string ⟨#[]⟩,.string ⟨#[]⟩,.string ⟨#[]⟩,.slice none 0 0,.int .i64 0,.bool false,.string ⟨#[]⟩,.slice none 0 0,.slice none 0 0,.int .u64 0,.int .i64 0,.int .i64 0]) (xs:=Z.flatMap stoC) (m0:=Z.length) (o:=zo) (m:=1) (pk:=[ownG 129 (Z.flatMap stoC) (zo)]) rfl rfl Tryz.underlying106 (by kernel_rfl) rfl (by omega) (by repeat(first|exact .nil|apply Pick.cons|exact .here|apply Ext.there)) (by simp) hzo (by rfl) (fun hm0=>⟨b54,0,rfl,fun w hw=>V.range_of_block (o:=0) (cs:=stoC (cSto ev z2 (W.steps+1))) (r:=[]) (hw.own _ (show InS (b54,.cells (stoC (cSto ev z2 (W.steps+1))).toArray 129 (0,0)) _ from(by repeat(first|exact .here|exact .inner .here|exact .inner (.inner .here)|refine .there ?_))).mem) rfl⟩) (stoC_one _) (by omega) (by omega)) fun o3 ho3=>Rv 18 rfl Nz<|Rv 19 rfl (Fa 131 106)<|ReN 20 rfl (Eff.storeX (v:=ownV (Z.length+1) o3) (l:=wcC {W with L:=W.L.set i (cThr ev z1 (Z.length:Nat))}) (l':=wcC {W with L:=W.L.set i (cThr ev z1 (Z.length:Nat)),sv:=ownV (Z.length+1) o3}) rfl rfl (V.ownV_one _ _) (by repeat(first|exact .here|exact .inner .here|exact .inner (.inner .here)|apply Upd.there)) (wc_ts (j:=3) (by rw[List.length_set];exact hL) (by omega) rfl rfl rfl) (by rw[wcC_len (by first|exact hL|(rw[List.length_set];exact hL))];omega) Tryz.sizeOf106) ?_
     intro _ _
     refine Rd ?_
     refine PQ.joined ((z2,o3)) (⟨hz2.1,hz2.2,ho3⟩) (by exact trivial) (by repeat(first|exact .nil|apply Pick.cons|exact .here|apply Ext.there))
   ·refine Ro rfl (CM [] fun w hw hs0=>fcall_g ev.c gl gp gc hgl w (hw.slAt h hd)) fun z2 hz2=>RW.any [4,13] (by kernel_rfl) (by simp) fun i hi=>?_
    simp only[List.mem_cons,List.not_mem_nil,or_false] at hi
    rcases hi with rfl|rfl
    ·refine Ro rfl (Eff.ofVal (Ld (v:=ownV Z.length zo) (hl:=by rw[wc_tl (W:={W with L:=W.L.set i (cThr ev z1 (Z.length:Nat))}) (j:=3) (by rw[List.length_set];exact hL) rfl];exact congrArg some hsv))) fun _ _=>Re 13 rfl (Eff.ofVal (Ld (v:= .int .i64 W.steps) (hl:=wc_tl (W:={W with L:=W.L.set i (cThr ev z1 (Z.length:Nat))}) (j:=0) (by rw[List.length_set];exact hL) rfl))) fun _ _=>Rv 14 rfl Ar<|Rv 15 rfl (Bd (stoC (cSto ev z2 (W.steps+1))))<|Re 16 rfl (Eff.buildSlice (rfl) [_,_,_,_,_,_,_,_,_,_,_,_,_,_] Tryz.underlying106 Tryz.sizeOf129 (by exact Tryz.zeroValue129) rfl rfl rfl rfl (by rfl)) fun b54 _=>Re 17 rfl (Eff.appendAny (stoC (cSto ev z2 (W.steps+1))) (sz:=14) (bytes:=192) (z:= .agg #[.int .i64 0,.int .i64 0,.string ⟨#[]⟩,.string ⟨#[]⟩,.string ⟨#[]⟩,.slice none 0 0,.int .i64 0,.bool false,.string ⟨#[]⟩,.slice none 0 0,.slice none 0 0,.int .u64 0,.int .i64 0,.int .i64 0]) (xs:=Z.flatMap stoC) (m0:=Z.length) (o:=zo) (m:=1) (pk:=[ownG 129 (Z.flatMap stoC) (zo)]) rfl rfl Tryz.underlying106 (by kernel_rfl) rfl (by omega) (by repeat(first|exact .nil|apply Pick.cons|exact .here|apply Ext.there)) (by simp) hzo (by rfl) (fun hm0=>⟨b54,0,rfl,fun w hw=>V.range_of_block (o:=0) (cs:=stoC (cSto ev z2 (W.steps+1))) (r:=[]) (hw.own _ (show InS (b54,.cells (stoC (cSto ev z2 (W.steps+1))).toArray 129 (0,0)) _ from(by repeat(first|exact .here|exact .inner .here|exact .inner (.inner .here)|refine .there ?_))).mem) rfl⟩) (stoC_one _) (by omega) (by omega)) fun o3 ho3=>Rv 18 rfl Nz<|Rv 19 rfl (Fa 131 106)<|ReN 20 rfl (Eff.storeX (v:=ownV (Z.length+1) o3) (l:=wcC {W with L:=W.L.set i (cThr ev z1 (Z.length:Nat))}) (l':=wcC {W with L:=W.L.set i (cThr ev z1 (Z.length:Nat)),sv:=ownV (Z.length+1) o3}) rfl rfl (V.ownV_one _ _) (by repeat(first|exact .here|exact .inner .here|exact .inner (.inner .here)|apply Upd.there)) (wc_ts (j:=3) (by rw[List.length_set];exact hL) (by omega) rfl rfl rfl) (by rw[wcC_len (by first|exact hL|(rw[List.length_set];exact hL))];omega) Tryz.sizeOf106) ?_
     intro _ _
     refine Rd ?_
     refine PQ.joined ((z2,o3)) (⟨hz2.1,hz2.2,ho3⟩) (by exact trivial) (by repeat(first|exact .nil|apply Pick.cons|exact .here|apply Ext.there))
    ·refine Ro rfl (Eff.ofVal (Ld (v:= .int .i64 W.steps) (hl:=wc_tl (W:={W with L:=W.L.set i (cThr ev z1 (Z.length:Nat))}) (j:=0) (by rw[List.length_set];exact hL) rfl))) fun _ _=>Rv 14 rfl Ar<|Rv 15 rfl (Bd (stoC (cSto ev z2 (W.steps+1))))<|V.RW.batchY [4,16] 16 54 [(4,42,_)] 4 rfl (by kernel_rfl) rfl rfl rfl rfl rfl (by simp) (by simp) ⟨_,rfl,rfl,rfl,Eff.buildSlice (rfl) [_,_,_,_,_,_,_,_,_,_,_,_,_,_] Tryz.underlying106 Tryz.sizeOf129 (by exact Tryz.zeroValue129) rfl rfl rfl rfl (by rfl)⟩ ⟨⟨_,rfl,rfl,rfl,Eff.ofVal (Ld (v:=ownV Z.length zo) (hl:=by rw[wc_tl (W:={W with L:=W.L.set i (cThr ev z1 (Z.length:Nat))}) (j:=3) (by rw[List.length_set];exact hL) rfl];exact congrArg some hsv))⟩,trivial⟩ (fun _ _=>⟨⟨_,rfl,rfl,rfl,Eff.ofVal (Ld (v:=ownV Z.length zo) (hl:=by rw[wc_tl (W:={W with L:=W.L.set i (cThr ev z1 (Z.length:Nat))}) (j:=3) (by rw[List.length_set];exact hL) rfl];exact congrArg some hsv))⟩,trivial⟩) ⟨_,(by repeat(first|exact .nil|apply Pick.cons|exact .here|apply Ext.there))⟩ (fun _ _=>⟨_,(by repeat(first|exact .nil|apply Pick.cons|exact .here|apply Ext.there))⟩) fun b54 _=>Re 17 rfl (Eff.appendAny (stoC (cSto ev z2 (W.steps+1))) (sz:=14) (bytes:=192) (z:= .agg #[.int .i64 0,.int .i64 0,.string ⟨#[]⟩,.string ⟨#[]⟩,.string ⟨#[]⟩,.slice none 0 0,.int .i64 0,.bool false,.string ⟨#[]⟩,.slice none 0 0,.slice none 0 0,.int .u64 0,.int .i64 0,.int .i64 0]) (xs:=Z.flatMap stoC) (m0:=Z.length) (o:=zo) (m:=1) (pk:=[ownG 129 (Z.flatMap stoC) (zo)]) rfl rfl Tryz.underlying106 (by kernel_rfl) rfl (by omega) (by repeat(first|exact .nil|apply Pick.cons|exact .here|apply Ext.there)) (by simp) hzo (by rfl) (fun hm0=>⟨b54,0,rfl,fun w hw=>V.range_of_block (o:=0) (cs:=stoC (cSto ev z2 (W.steps+1))) (r:=[]) (hw.own _ (show InS (b54,.cells (stoC (cSto ev z2 (W.steps+1))).toArray 129 (0,0)) _ from(by repeat(first|exact .here|exact .inner .here|exact .inner (.inner .here)|refine .there ?_))).mem) rfl⟩) (stoC_one _) (by omega) (by omega)) ?_
     intro o3 ho3
     refine Rv 18 rfl Nz<|Rv 19 rfl (Fa 131 106)<|ReN 20 rfl (Eff.storeX (v:=ownV (Z.length+1) o3) (l:=wcC {W with L:=W.L.set i (cThr ev z1 (Z.length:Nat))}) (l':=wcC {W with L:=W.L.set i (cThr ev z1 (Z.length:Nat)),sv:=ownV (Z.length+1) o3}) rfl rfl (V.ownV_one _ _) (by repeat(first|exact .here|exact .inner .here|exact .inner (.inner .here)|apply Upd.there)) (wc_ts (j:=3) (by rw[List.length_set];exact hL) (by omega) rfl rfl rfl) (by rw[wcC_len (by first|exact hL|(rw[List.length_set];exact hL))];omega) Tryz.sizeOf106) fun _ _=>Rd ?_
     refine PQ.joined ((z2,o3)) (⟨hz2.1,hz2.2,ho3⟩) (by exact trivial) (by repeat(first|exact .nil|apply Pick.cons|exact .here|apply Ext.there))
   ·refine Ro rfl (Eff.ofVal (Ld (v:= .int .i64 W.steps) (hl:=wc_tl (W:={W with L:=W.L.set i (cThr ev z1 (Z.length:Nat))}) (j:=0) (by rw[List.length_set];exact hL) rfl))) fun _ _=>Rv 14 rfl Ar<|RW.any [4,9] (by kernel_rfl) (by simp) fun i hi=>?_
    simp only[List.mem_cons,List.not_mem_nil,or_false] at hi
    rcases hi with rfl|rfl
    ·refine Ro rfl (Eff.ofVal (Ld (v:=ownV Z.length zo) (hl:=by rw[wc_tl (W:={W with L:=W.L.set i (cThr ev z1 (Z.length:Nat))}) (j:=3) (by rw[List.length_set];exact hL) rfl];exact congrArg some hsv))) fun _ _=>Re 9 rfl (CM [] fun w hw hs0=>fcall_g ev.c gl gp gc hgl w (hw.slAt h hd)) fun z2 hz2=>Rv 15 rfl (Bd (stoC (cSto ev z2 (W.steps+1))))<|Re 16 rfl (Eff.buildSlice (rfl) [_,_,_,_,_,_,_,_,_,_,_,_,_,_] Tryz.underlying106 Tryz.sizeOf129 (by exact Tryz.zeroValue129) rfl rfl rfl rfl (by rfl)) fun b54 _=>Re 17 rfl (Eff.appendAny (stoC (cSto ev z2 (W.steps+1))) (sz:=14) (bytes:=192) (z:= .agg #[.int .i64 0,.int .i64 0,.string ⟨#[]⟩,.string ⟨#[]⟩,.string ⟨#[]⟩,.slice none 0 0,.int .i64 0,.bool false,.string ⟨#[]⟩,.slice none 0 0,.slice none 0 0,.int .u64 0,.int .i64 0,.int .i64 0]) (xs:=Z.flatMap stoC) (m0:=Z.length) (o:=zo) (m:=1) (pk:=[ownG 129 (Z.flatMap stoC) (zo)]) rfl rfl Tryz.underlying106 (by kernel_rfl) rfl (by omega) (by repeat(first|exact .nil|apply Pick.cons|exact .here|apply Ext.there)) (by simp) hzo (by rfl) (fun hm0=>⟨b54,0,rfl,fun w hw=>V.range_of_block (o:=0) (cs:=stoC (cSto ev z2 (W.steps+1))) (r:=[]) (hw.own _ (show InS (b54,.cells (stoC (cSto ev z2 (W.steps+1))).toArray 129 (0,0)) _ from(by repeat(first|exact .here|exact .inner .here|exact .inner (.inner .here)|refine .there ?_))).mem) rfl⟩) (stoC_one _) (by omega) (by omega)) fun o3 ho3=>Rv 18 rfl Nz<|Rv 19 rfl (Fa 131 106)<|ReN 20 rfl (Eff.storeX (v:=ownV (Z.length+1) o3) (l:=wcC {W with L:=W.L.set i (cThr ev z1 (Z.length:Nat))}) (l':=wcC {W with L:=W.L.set i (cThr ev z1 (Z.length:Nat)),sv:=ownV (Z.length+1) o3}) rfl rfl (V.ownV_one _ _) (by repeat(first|exact .here|exact .inner .here|exact .inner (.inner .here)|apply Upd.there)) (wc_ts (j:=3) (by rw[List.length_set];exact hL) (by omega) rfl rfl rfl) (by rw[wcC_len (by first|exact hL|(rw[List.length_set];exact hL))];omega) Tryz.sizeOf106) ?_
     intro _ _
     refine Rd ?_
     refine PQ.joined ((z2,o3)) (⟨hz2.1,hz2.2,ho3⟩) (by exact trivial) (by repeat(first|exact .nil|apply Pick.cons|exact .here|apply Ext.there))
    ·refine Ro rfl (CM [] fun w hw hs0=>fcall_g ev.c gl gp gc hgl w (hw.slAt h hd)) fun z2 hz2=>Rv 15 rfl (Bd (stoC (cSto ev z2 (W.steps+1))))<|V.RW.batchY [4,16] 16 54 [(4,42,_)] 4 rfl (by kernel_rfl) rfl rfl rfl rfl rfl (by simp) (by simp) ⟨_,rfl,rfl,rfl,Eff.buildSlice (rfl) [_,_,_,_,_,_,_,_,_,_,_,_,_,_] Tryz.underlying106 Tryz.sizeOf129 (by exact Tryz.zeroValue129) rfl rfl rfl rfl (by rfl)⟩ ⟨⟨_,rfl,rfl,rfl,Eff.ofVal (Ld (v:=ownV Z.length zo) (hl:=by rw[wc_tl (W:={W with L:=W.L.set i (cThr ev z1 (Z.length:Nat))}) (j:=3) (by rw[List.length_set];exact hL) rfl];exact congrArg some hsv))⟩,trivial⟩ (fun _ _=>⟨⟨_,rfl,rfl,rfl,Eff.ofVal (Ld (v:=ownV Z.length zo) (hl:=by rw[wc_tl (W:={W with L:=W.L.set i (cThr ev z1 (Z.length:Nat))}) (j:=3) (by rw[List.length_set];exact hL) rfl];exact congrArg some hsv))⟩,trivial⟩) ⟨_,(by repeat(first|exact .nil|apply Pick.cons|exact .here|apply Ext.there))⟩ (fun _ _=>⟨_,(by repeat(first|exact .nil|apply Pick.cons|exact .here|apply Ext.there))⟩) fun b54 _=>Re 17 rfl (Eff.appendAny (stoC (cSto ev z2 (W.steps+1))) (sz:=14) (bytes:=192) (z:= .agg #[.int .i64 0,.int .i64 0,.string ⟨#[]⟩,.string ⟨#[]⟩,.string ⟨#[]⟩,.slice none 0 0,.int .i64 0,.bool false,.string ⟨#[]⟩,.slice none 0 0,.slice none 0 0,.int .u64 0,.int .i64 0,.int .i64 0]) (xs:=Z.flatMap stoC) (m0:=Z.length) (o:=zo) (m:=1) (pk:=[ownG 129 (Z.flatMap stoC) (zo)]) rfl rfl Tryz.underlying106 (by kernel_rfl) rfl (by omega) (by repeat(first|exact .nil|apply Pick.cons|exact .here|apply Ext.there)) (by simp) hzo (by rfl) (fun hm0=>⟨b54,0,rfl,fun w hw=>V.range_of_block (o:=0) (cs:=stoC (cSto ev z2 (W.steps+1))) (r:=[]) (hw.own _ (show InS (b54,.cells (stoC (cSto ev z2 (W.steps+1))).toArray 129 (0,0)) _ from(by repeat(first|exact .here|exact .inner .here|exact .inner (.inner .here)|refine .there ?_))).mem) rfl⟩) (stoC_one _) (by omega) (by omega)) ?_
     intro o3 ho3
     refine Rv 18 rfl Nz<|Rv 19 rfl (Fa 131 106)<|ReN 20 rfl (Eff.storeX (v:=ownV (Z.length+1) o3) (l:=wcC {W with L:=W.L.set i (cThr ev z1 (Z.length:Nat))}) (l':=wcC {W with L:=W.L.set i (cThr ev z1 (Z.length:Nat)),sv:=ownV (Z.length+1) o3}) rfl rfl (V.ownV_one _ _) (by repeat(first|exact .here|exact .inner .here|exact .inner (.inner .here)|apply Upd.there)) (wc_ts (j:=3) (by rw[List.length_set];exact hL) (by omega) rfl rfl rfl) (by rw[wcC_len (by first|exact hL|(rw[List.length_set];exact hL))];omega) Tryz.sizeOf106) fun _ _=>Rd ?_
     refine PQ.joined ((z2,o3)) (⟨hz2.1,hz2.2,ho3⟩) (by exact trivial) (by repeat(first|exact .nil|apply Pick.cons|exact .here|apply Ext.there))
  ·rintro⟨z2,o3⟩ ⟨hq1,hq2,hq3⟩
   refine Ps<|Sq<|Rg<|Lv Av<|Nl<|Ps<|Rt<|Rt1 ?_
   have ea:(Z++[(cSto ev z2 (W.steps+1))]).flatMap stoC=Z.flatMap stoC++stoC (cSto ev z2 (W.steps+1)):=by simp
   intro w' hw;refine⟨(z1,z2,o3),⟨hz1.1,hz1.2,hq1,hq2,by rw[ea];exact hq3⟩,rfl,?_⟩
   rw[ea]
   exact hw.pick (by repeat(first|exact .nil|apply Pick.cons|exact .here|apply Ext.there))
end G
end Go.Proofs.YtpjmdbifacijoaaGreatDoor
namespace Go.Proofs.YtpjmdbifacijoaaGreatDoor
open Go Go.RowKit V
set_option linter.unusedVariables false
set_option maxRecDepth 100000
set_option maxHeartbeats 400000
namespace G
open V (str byC ownV ownG ownS ownOk)
instance:Cal Tryz.prog 212:=⟨Tryz.call212⟩
theorem places103:∀w,((Array.mapM (fun(f:Field)=>do pure (f.offset,← sizeOf f.type)) (Tryz.prog.fieldsOf 103):Sem (Array (Nat×Nat)))).run Tryz.prog w= .ok [(0,1),(1,28),(29,1)].toArray w:=by
 intro w;kernel_rfl
instance:Plc Tryz.prog 103 (fOf Tryz.underlying103) (lOf (P:=Tryz.prog) places103):=⟨places103,Tryz.underlying103⟩
instance:Cal Tryz.prog 167:=⟨Tryz.call167⟩
def stepE (W:Wc)(t:Int):Int:=if thrE W t=0 then(if busyW W t=true then 0 else 12) else thrE W t
theorem actW_L (W:Wc)(act:Int):(actW W act).L=W.L:=by unfold actW;split<;>rfl
theorem actW_s (W:Wc)(act:Int):(actW W act).steps=W.steps∧(actW W act).sv=W.sv∧(actW W act).ov=W.ov:=by unfold actW;split<;>exact⟨rfl,rfl,rfl⟩
theorem thr_all (y y':ThO):V.splice (thrC y) 0 (thrC y')=thrC y':=by
 have h:=splice_mid0 (thrC y') [] (thrC y) [] rfl
 rw[List.append_nil,List.append_nil] at h
 exact h
theorem wc_dropan {W:Wc}{i:Nat}{y:ThO}(hy:W.L[i]? =some y):∃r,(wcC W).drop (8+i*30+1+22)=anC y.1.f.an y.2.so y.2.ho++r:=by
 obtain⟨r,hr⟩:=wc_drop hy
 refine⟨r,?_⟩
 rw[← List.drop_drop,hr];rfl
theorem evstep_no (wb:Nat)(W:Wc)(hL:W.L.length=4)(hth:W.thn≤4)(ev:Evt)(gl:List Kz)(gp:Option Addr)(gc:Nat)(kv:Value)(hkv:kv.oneCell'=true)(hn:¬stepE W ev.th=0)(w:World)(hs:Sat [[(wb,.cells (wcC (W)).toArray 108 (0,0))]] w):Calls Tryz.prog 127 [.pointer (some ⟨wb,0,none⟩),.agg (evC ev (.slice gp gl.length gc) kv).toArray].toArray w fun e w'=>e= .returned (.int .i64 (stepE W ev.th))∧Below w.heap.size w w':=by
 refine V.calls [[(wb,.cells (wcC (W)).toArray 108 (0,0))]] Tryz.func127 rfl Tryz.ntmps127 (Nat.le_of_ble_eq_true rfl) hs<|Sq<|Rg<|Le XA fun b3 _=>Lv Av<|Nl<|Ps<|Sq<|Rg<|Lv Mv<|Lv (Fa 1 3)<|Lv (Ld (v:= .int .i64 ev.th))<|Le (CV fun w hw=>thread_g wb W ev.th hth w (hw.sat.pick (ss:=[[(wb,.cells (wcC (W)).toArray 108 (0,0))]]) (by repeat(first|exact .nil|apply Pick.cons|exact .here|apply Ext.there)))) fun _ _=>Lv Mv<|Lv Ex<|Lv Ex<|Lv Av<|Lv Av<|Nl<|Ps<|Sq<|Sq<|Rg<|Lv Mv<|Lv Cm<|Nl<|Ps ?_
 refine CW.cond rfl (fun h16=>?_) (fun h16=>?_)
 ·replace h16:=bT h16
  refine Sq<|Rg<|Lv Mv<|Lv Av<|Nl<|Ps<|Rt<|Tr<|Rt1 ?_
  have e1:stepE W ev.th=thrE W ev.th:=if_neg (by simpa using h16)
  rw[e1]
  intro w' hw;exact⟨rfl,hw.ro (by repeat(first|exact .nil|apply Pick.cons|exact .here|apply Ext.there)) hs⟩
 ·replace h16:=bF h16
  have h16':thrE W ev.th=0:=by simpa using h16
  obtain⟨_,ht0,ht1⟩:=thrE_yes h16'
  obtain⟨i,hi⟩:∃i:Nat,ev.th=i:=⟨ev.th.toNat,by omega⟩
  obtain⟨y,hy⟩:∃y,W.L[i]? =some y:=⟨W.L[i]'(by omega),by simp⟩
  have hby:busyW W ev.th=y.1.busy:=by unfold busyW;rw[hi,Int.toNat_natCast,hy];rfl
  refine Sk<|Ps<|Sq<|Sq<|Rg<|Lv Mv<|LW.re 18 (.pointer (some ⟨wb,8+i*30,none⟩)) rfl (by rw[if_pos h16',hi];rfl)<|Lv Nz<|Lv (Fa 0 4)<|Lv (Ld (v:= .bool y.1.busy) (hl:=wc_get hy (j:=0) rfl))<|Lv Nt<|Nl<|Ps ?_
  refine CW.cond rfl (fun h22=>?_) (fun h22=>?_)
  ·replace h22:=bT h22
   refine Sq<|Rg<|Lv Av<|Nl<|Ps<|Rt<|Tr<|Rt1 ?_
   have e1:stepE W ev.th=12:=(if_pos h16').trans (if_neg (by rw[hby];simpa using h22))
   rw[e1]
   intro w' hw;exact⟨rfl,hw.ro (by repeat(first|exact .nil|apply Pick.cons|exact .here|apply Ext.there)) hs⟩
  ·exact absurd ((if_pos h16').trans (if_pos (by rw[hby];simpa using h22))) hn
instance:Und Tryz.prog 33 (dOf Tryz.underlying33):=⟨Tryz.underlying33⟩
instance:Siz Tryz.prog 33 (kOf Tryz.sizeOf33):=⟨Tryz.sizeOf33⟩
instance:AgF Tryz.prog 33:=⟨Tryz.isAgg33⟩
instance:Cal Tryz.prog 91:=⟨Tryz.call91⟩
theorem wstore_g (wb:Nat)(W:Wc)(w:World)(hs:Sat [[(wb,.cells (wcC (W)).toArray 108 (0,0))]] w):Calls Tryz.prog 91 [.pointer (some ⟨wb,0,none⟩)].toArray w fun e w'=>e= .returned (.pointer W.a)∧Below w.heap.size w w':=by
 refine V.calls [[(wb,.cells (wcC (W)).toArray 108 (0,0))]] Tryz.func91 rfl Tryz.ntmps91 (Nat.le_of_ble_eq_true rfl) hs<|Sq<|Rg<|Lv Av<|Nl<|Ps<|Sq<|Sq<|Rg<|Lv Mv<|Lv EP<|Nl<|Ps<|Cf<|Sk<|Ps<|Sq<|Rg<|Lv Mv<|Lv Nz<|Lv (Fa 4 81)<|Lv (Ld (v:= .pointer W.a))<|Lv Av<|Nl<|Ps<|Rt<|Rt1 ?_
 intro w' hw;exact⟨rfl,hw.ro (by repeat(first|exact .nil|apply Pick.cons|exact .here|apply Ext.there)) hs⟩
theorem hp_new {ss so:V.Sg}{w w':World}(hs:Sat ss w)(h:Hp ⟨w,V.ids ss⟩ (so++ss) w'):Hp ⟨w,[]⟩ so w':=by
 have hf:=h.nd
 rw[List.flatten_append,List.map_append] at hf
 have hp:=List.nodup_append.1 hf
 refine⟨h.os,h.tape,h.output,h.size,fun b hb _=>?_,fun p h8=>h.own p (by rw[List.flatten_append];exact List.mem_append_left _ h8),fun p h8=>?_,hp.1⟩
 ·by_cases hm:b∈V.ids ss
  ·obtain⟨p,hq,rfl⟩:=List.mem_map.1 hm
   rw[h.own p (by rw[List.flatten_append];exact List.mem_append_right _ hq),hs.own p hq]
  ·exact h.old b hb hm
 ·rcases h.lo p (by rw[List.flatten_append];exact List.mem_append_left _ h8) with h9|h9
  ·exact .inl h9
  ·exact absurd rfl (hp.2.2 _ (List.mem_map_of_mem h8) _ h9)
end G
end Go.Proofs.YtpjmdbifacijoaaGreatDoor
namespace Go.Proofs.YtpjmdbifacijoaaGreatDoor
open Go Go.RowKit V
set_option linter.unusedVariables false
set_option maxRecDepth 100000
namespace G
open V (str byC ownV ownG ownS ownOk)
instance:Cal Tryz.prog 89:=⟨Tryz.call89⟩
def evP:Nat→Nat
 |1=>126
 |2=>127
 |3=>128
 |4=>129
 |5=>130
 |_=>131
def doE:V.MI:=[(0,1,.func (.func 126) #[] #[]),(1,2,.func (.func 127) #[] #[]),(2,3,.func (.func 128) #[] #[]),(3,4,.func (.func 129) #[] #[]),(4,5,.func (.func 130) #[] #[]),(5,6,.func (.func 131) #[] #[])]
theorem call_ev (k:Nat)(args:Array Value)(w:World):(callFunc (evP k) args).run Tryz.prog w= .ok (.enter (evP k) args) w:=by
 unfold evP
 split
 ·exact Tryz.call126 args w
 ·exact Tryz.call127 args w
 ·exact Tryz.call128 args w
 ·exact Tryz.call129 args w
 ·exact Tryz.call130 args w
 ·exact Tryz.call131 args w
theorem doE_get {k:Nat}(h:1≤k∧k≤6):V.iget doE (k:Nat)=some (.func (.func (evP k)) #[] #[]):=by
 rcases k with _|_|_|_|_|_|_|k<;>first|rfl|omega
theorem pick_two (x y:V.Seg):∀ss:V.Sg,Pick ss (x::y::ss) [x,y]
 |[]=> .nil
 |s::ss=> .cons (.there (.there .here)) (pick_two x y ss)
theorem doings_g (w:World):Calls Tryz.prog 89 [].toArray w fun e w'=>∃b:Nat,True∧e= .returned (.map (some b))∧Hp ⟨w,[]⟩ ([[(b,V.imO doE 6)]]) w':=by
 refine V.calls [] Tryz.func89 rfl Tryz.ntmps89 (Nat.le_of_ble_eq_true rfl) (V.sat_nil _)<|Sq<|Rg<|Lv Av<|Nl<|Ps<|Sq<|Rg<|Le (V.Eff.imakeMap) fun b1 _=>LeN (V.Eff.insert rfl rfl rfl Tryz.underlying181 Tryz.underlying3 (by repeat(first|exact .here|exact .inner .here|exact .inner (.inner .here)|apply Upd.there)) (by rfl)) fun _ _=>LeN (V.Eff.insert rfl rfl rfl Tryz.underlying181 Tryz.underlying3 (by repeat(first|exact .here|exact .inner .here|exact .inner (.inner .here)|apply Upd.there)) (by rfl)) fun _ _=>LeN (V.Eff.insert rfl rfl rfl Tryz.underlying181 Tryz.underlying3 (by repeat(first|exact .here|exact .inner .here|exact .inner (.inner .here)|apply Upd.there)) (by rfl)) fun _ _=>LeN (V.Eff.insert rfl rfl rfl Tryz.underlying181 Tryz.underlying3 (by repeat(first|exact .here|exact .inner .here|exact .inner (.inner .here)|apply Upd.there)) (by rfl)) fun _ _=>LeN (V.Eff.insert rfl rfl rfl Tryz.underlying181 Tryz.underlying3 (by repeat(first|exact .here|exact .inner .here|exact .inner (.inner .here)|apply Upd.there)) (by rfl)) fun _ _=>LeN (V.Eff.insert rfl rfl rfl Tryz.underlying181 Tryz.underlying3 (by repeat(first|exact .here|exact .inner .here|exact .inner (.inner .here)|apply Upd.there)) (by rfl)) fun _ _=>Lv Mv<|Lv Av<|Nl<|Ps<|Rt<|Rt1 ?_
 intro w' hw;exact⟨b1,trivial,rfl,hw⟩
theorem do_any {α:Type}(φ:α→Prop)(W':α→Wc)(so:α→V.Sg)(err:Int)(wb:Nat)(W:Wc)(hL:W.L.length=4)(ev:Evt)(gl:List Kz)(gp:Option Addr)(gc:Nat)(kv:Value)(hkv:kv.oneCell'=true)(k:Nat)(hk:ev.k=(k:Nat))(hk6:1≤k∧k≤6)(ss:V.Sg)(hL':∀z,φ z→(W' z).L.length=4∧0≤(W' z).steps∧(W' z).steps≤1000000000)(w:World)(hs:Sat ([(wb,.cells (wcC (W)).toArray 108 (0,0))]::ss) w)(hf:∀w1:World,Below w.heap.size w w1→Sat ([(wb,.cells (wcC (W)).toArray 108 (0,0))]::ss) w1→Calls Tryz.prog (evP k) [.pointer (some ⟨wb,0,none⟩),.agg (evC ev (.slice gp gl.length gc) kv).toArray].toArray w1 fun e w'=>∃z,φ z∧e= .returned (.int .i64 err)∧Hp ⟨w1,V.ids ([(wb,.cells (wcC (W)).toArray 108 (0,0))]::ss)⟩ ([(wb,.cells (wcC (W' z)).toArray 108 (0,0))]::so z) w'):Calls Tryz.prog 52 [.pointer (some ⟨wb,0,none⟩),.agg (evC ev (.slice gp gl.length gc) kv).toArray].toArray w fun e w'=>∃z,φ z∧e= .returned (.int .i64 err)∧Hp ⟨w,V.ids ([(wb,.cells (wcC (W)).toArray 108 (0,0))]::ss)⟩ ([(wb,.cells (wcC (if err=0 then {W' z with steps:=(W' z).steps+1} else W' z)).toArray 108 (0,0))]::so z) w':=by
 refine V.calls ([(wb,.cells (wcC (W)).toArray 108 (0,0))]::ss) Tryz.func52 rfl Tryz.ntmps52 (Nat.le_of_ble_eq_true rfl) hs<|Sq<|Rg<|Le XA fun b3 _=>Lv Av<|Nl<|Ps<|Sq<|Dr ([[(b3,.cells (evC ev (.slice gp gl.length gc) kv).toArray 111 (0,0))]])<|Rv 1 rfl (Fa 0 3)<|Rv 2 rfl (Ld (v:= .int .i64 ev.k))<|Re 0 rfl (CM [] fun w hw hs0=>doings_g w) fun mb _=>Re 3 rfl (Eff.ofVal (V.Val.ilookup (E:=doE) (c:=6) (k:=ev.k) (z:= .nilFunc) rfl rfl Tryz.underlying181 Tryz.underlying3 Tryz.zeroValue179 (by repeat(first|exact .here|exact .inner .here|exact .inner (.inner .here)|refine .there ?_)))) fun _ _=>Rv 4 rfl Mv<|Rv 5 rfl Ex<|RW.re 13 (.func (.func (evP k)) #[] #[]) rfl (by rw[hk,doE_get hk6];rfl)<|Rv 6 rfl Ex<|RW.re 14 (.bool true) rfl (by rw[hk,doE_get hk6];rfl)<|Rv 7 rfl Av<|Rv 8 rfl Av<|Rd<|Ps<|Sq<|Sq<|Rg<|Lv Mv<|Lv EP<|Lv Mv<|Lv Mv<|Lv Nt<|Lv Pf<|Nl<|Ps<|Cf<|Sk<|Ps<|Sq<|Rg<|Lv Mv<|Lv Mv<|Lv (Lw (l:=evC ev (.slice gp gl.length gc) kv))<|Le (Eff.callFM (f:=(evP k)) (caps:=[]) (([(wb,.cells (wcC (W)).toArray 108 (0,0))]::ss)) (pick_two _ _ _) rfl rfl (call_ev k) (fun w hw hs0=>hf w (hw.ro (pick_two _ _ _) hs) hs0)) fun z hz=>Lv Av<|Nl<|Ps<|Sq<|Sq<|Rg<|Lv Mv<|Lv Cm<|Nl<|Ps ?_
 refine CW.cond rfl (fun h26=>?_) (fun h26=>?_)
 ·replace h26:=bT h26
  have h26:err=0:=h26
  obtain⟨hst0,hst1⟩:=(hL' z hz).2
  refine Rg<|Lv Mv<|Lv Nz<|Lv (Fa 128 3)<|Lv (Ld (v:= .int .i64 (W' z).steps) (hl:=wc_tl (j:=0) (hL' z hz).1 rfl))<|Lv Ar<|Lv Nz<|Lv (Fa 128 3)<|LeN (Eff.storeX (v:= .int .i64 ((W' z).steps+1)) (l:=wcC (W' z)) (l':=wcC {W' z with steps:=(W' z).steps+1}) rfl rfl rfl .here (wc_ts (j:=0) (hL' z hz).1 (by omega) rfl rfl rfl) (by rw[wcC_len (hL' z hz).1];omega) Tryz.sizeOf3) fun _ _=>Nl<|Ps<|Sq<|Rg<|Lv Mv<|Lv Av<|Nl<|Ps<|Rt<|Rt1 ?_
  intro w' hw;refine⟨z,hz,rfl,?_⟩
  rw[if_pos h26]
  exact hw.left
 ·replace h26:=bF h26
  have h26:¬err=0:=h26
  refine Sk<|Ps<|Sq<|Rg<|Lv Mv<|Lv Av<|Nl<|Ps<|Rt<|Rt1 ?_
  intro w' hw;refine⟨z,hz,rfl,?_⟩
  rw[if_neg h26]
  exact hw.left
end G
end Go.Proofs.YtpjmdbifacijoaaGreatDoor
namespace Go.Proofs.YtpjmdbifacijoaaGreatDoor
open Go Go.RowKit V
set_option linter.unusedVariables false
set_option maxRecDepth 100000
set_option maxHeartbeats 400000
namespace G
open V (str byC ownV ownG ownS ownOk)
theorem places108:∀w,((Array.mapM (fun(f:Field)=>do pure (f.offset,← sizeOf f.type)) (Tryz.prog.fieldsOf 108):Sem (Array (Nat×Nat)))).run Tryz.prog w= .ok [(0,3),(3,1),(4,1),(5,1),(6,2),(8,120),(128,1),(129,1),(130,1),(131,1)].toArray w:=by
 intro w;kernel_rfl
instance:Plc Tryz.prog 108 (fOf Tryz.underlying108) (lOf (P:=Tryz.prog) places108):=⟨places108,Tryz.underlying108⟩
instance:Cal Tryz.prog 45:=⟨Tryz.call45⟩
instance:Cal Tryz.prog 86:=⟨Tryz.call86⟩
instance:Cal Tryz.prog 88:=⟨Tryz.call88⟩
instance:Cal Tryz.prog 125:=⟨Tryz.call125⟩
abbrev pdvO (pb dv:Nat):Nat×Obj:=(pb,.cells [.pointer (some ⟨dv,0,none⟩)].toArray 152 (0,0))
abbrev dvcL (db:Nat)(dn st:Int):List Value:=[.pointer (some ⟨db,0,none⟩),.int .u32 dn,.int .i32 st,.int .u32 0]
abbrev dvcB (dv db:Nat)(dn st:Int):Nat×Obj:=(dv,.cells (dvcL db dn st).toArray 178 (0,0))
theorem fmt1_g (pb dv:Nat)(xd:DvR)(v:Dev)(hm:10≤v.D.length∧v.D.length≤258)(dn st:Int)(w:World)(hs:Sat ([pdvO pb dv]::[dvcB dv xd.db dn st]::vS xd v) w):Calls Tryz.prog 124 [.pointer (some ⟨pb,0,none⟩)].toArray w fun e w'=>∃_u:Unit,True∧e= .returned (.tuple #[])∧Hp ⟨w,V.ids ([pdvO pb dv]::[dvcB dv xd.db dn st]::vS xd v)⟩ ([pdvO pb dv]::[dvcB dv xd.db dn st]::vS xd (fmtV v)) w':=by
 refine V.calls ([pdvO pb dv]::[dvcB dv xd.db dn st]::vS xd v) Tryz.func124 rfl Tryz.ntmps124 (Nat.le_of_ble_eq_true rfl) hs<|Rg<|Lv Ld<|Lv Nz<|Lv (Fa 0 84)<|Lv Ld<|Le (CM ((vS xd v)) fun w hw hs=>format_g xd v hm w hs) fun _ _=>Nl<|PQ.end0 rfl ?_
 intro w' hw;exact⟨(),trivial,rfl,hw.pick (by repeat(first|exact .nil|apply Pick.cons|exact .here|apply Ext.there))⟩
theorem slowF_g (pb dv:Nat)(xd:DvR)(v:Dev)(hm:10≤v.D.length∧v.D.length≤258)(w:World)(hs:Sat ([pdvO pb dv]::[dvcB dv xd.db 0 0]::vS xd v) w):Calls Tryz.prog 159 [.pointer (some ⟨dv,1,none⟩),.func (.func 124) #[] #[.pointer (some ⟨pb,0,none⟩)]].toArray w fun e w'=>∃_u:Unit,True∧e= .returned (.tuple #[])∧Hp ⟨w,V.ids ([pdvO pb dv]::[dvcB dv xd.db 0 0]::vS xd v)⟩ ([pdvO pb dv]::[dvcB dv xd.db 1 0]::vS xd (fmtV v)) w':=by
 refine V.callsDf ([pdvO pb dv]::[dvcB dv xd.db 0 0]::vS xd v) Tryz.func159 rfl Tryz.ntmps159 (Nat.le_of_ble_eq_true rfl) hs<|Sq<|Rg<|Lv Mv<|Lv Nz<|Lv (Fa 1 174)<|Le (CM ([[dvcB dv xd.db 0 0]]) fun w hw hs=>lock_c dv 2 (dvcL xd.db 0 0) 178 w rfl hs) fun _ _=>Nl<|Ps<|Sq<|Rg<|Lv Mv<|Lv Nz<|Lv (Fa 1 174)<|LW.dfr rfl rfl<|CD.seq<|CD.region<|Lv Mv<|Lv Nz<|Lv (Fa 0 170)<|Le (CV fun w hw=>bLoad_c 0 dv 1 (dvcL xd.db 0 1) 178 w rfl hw.pk.sat) fun _ _=>Lv Nt<|Nl<|PQ.seqD<|CD.cond_t rfl<|CD.seq<|CD.region<|Lv Mv<|Lv Nz<|Lv (Fa 0 170)<|LW.dfr2 rfl rfl<|CD.region<|Lv Mv<|Le (Eff.callFM (f:=124) (caps:=[.pointer (some ⟨pb,0,none⟩)]) ([pdvO pb dv]::[dvcB dv xd.db 0 1]::vS xd v) (by repeat(first|exact .nil|apply Pick.cons|exact .here|apply Ext.there)) rfl rfl Tryz.call124 (fun w hw hs=>fmt1_g pb dv xd v hm 0 1 w hs)) fun _ _=>Nl<|PQ.endD fun ac w' ha hw=>?_
 skip
 refine Leaves.call (ss:=[[dvcB dv xd.db 0 1]]) hw (by repeat(first|exact .nil|apply Pick.cons|exact .here|apply Ext.there)) Tryz.call207 (fun hs=>sto_d _ dv 1 (dvcL xd.db 0 1) 178 w' rfl hs) fun _ w' _ hw=>?_
 skip
 refine Leaves.call (ss:=[[dvcB dv xd.db 1 1]]) hw (by repeat(first|exact .nil|apply Pick.cons|exact .here|apply Ext.there)) Tryz.call206 (fun hs=>unl_d dv 2 (dvcL xd.db 1 1) 178 w' rfl hs) fun _ w' _ hw=>?_
 skip
 exact Leaves.nil0 rfl ⟨(),trivial,rfl,hw.pick (by repeat(first|exact .nil|apply Pick.cons|exact .here|apply Ext.there))⟩
theorem doF_g (pb dv:Nat)(xd:DvR)(v:Dev)(hm:10≤v.D.length∧v.D.length≤258)(w:World)(hs:Sat ([pdvO pb dv]::[dvcB dv xd.db 0 0]::vS xd v) w):Calls Tryz.prog 123 [.pointer (some ⟨dv,1,none⟩),.func (.func 124) #[] #[.pointer (some ⟨pb,0,none⟩)]].toArray w fun e w'=>∃_u:Unit,True∧e= .returned (.tuple #[])∧Hp ⟨w,V.ids ([pdvO pb dv]::[dvcB dv xd.db 0 0]::vS xd v)⟩ ([pdvO pb dv]::[dvcB dv xd.db 1 0]::vS xd (fmtV v)) w':=by
 refine V.calls ([pdvO pb dv]::[dvcB dv xd.db 0 0]::vS xd v) Tryz.func123 rfl Tryz.ntmps123 (Nat.le_of_ble_eq_true rfl) hs<|Sq<|Rg<|Lv Mv<|Lv Nz<|Lv (Fa 0 170)<|Le (CV fun w hw=>bLoad_c 0 dv 1 (dvcL xd.db 0 0) 178 w rfl hw.pk.sat) fun _ _=>Lv Nt<|Nl<|Ps<|Ct<|Rg<|Lv Mv<|Lv Mv<|Le (CM (([pdvO pb dv]::[dvcB dv xd.db 0 0]::vS xd v)) fun w hw hs=>slowF_g pb dv xd v hm w hs) fun _ _=>Nl<|PQ.end0 rfl ?_
 intro w' hw;exact⟨(),trivial,rfl,hw.pick (by repeat(first|exact .nil|apply Pick.cons|exact .here|apply Ext.there))⟩
theorem dfmt_g (dv:Nat)(xd:DvR)(v:Dev)(hm:10≤v.D.length∧v.D.length≤258)(w:World)(hs:Sat ([dvcB dv xd.db 0 0]::vS xd v) w):Calls Tryz.prog 88 [.pointer (some ⟨dv,0,none⟩)].toArray w fun e w'=>∃_u:Unit,True∧e= .returned (.tuple #[])∧Hp ⟨w,V.ids ([dvcB dv xd.db 0 0]::vS xd v)⟩ ([dvcB dv xd.db 1 0]::vS xd (fmtV v)) w':=by
 refine V.calls ([dvcB dv xd.db 0 0]::vS xd v) Tryz.func88 rfl Tryz.ntmps88 (Nat.le_of_ble_eq_true rfl) hs<|Sq<|Rg<|Le XS fun b1 _=>Nl<|Ps<|Rg<|Lv Ld<|Lv Nz<|Lv (Fa 1 176)<|Lv Mf<|Le (CM (([pdvO b1 dv]::[dvcB dv xd.db 0 0]::vS xd v)) fun w hw hs=>doF_g b1 dv xd v hm w hs) fun _ _=>Nl<|PQ.end0 rfl ?_
 intro w' hw;exact⟨(),trivial,rfl,hw.pick (by repeat(first|exact .nil|apply Pick.cons|exact .here|apply Ext.there))⟩
def newV (n:Nat):Dev:=⟨List.replicate n ce0,ct0⟩
theorem anew_g (n th:Nat)(hn:10≤n∧n≤258)(h1:1≤th)(h4:th≤4)(w:World):Calls Tryz.prog 45 [.int .i64 (n:Nat),.int .i64 (th:Nat)].toArray w fun e w'=>∃y:ArR×DvR,y.1.ms.length=8∧e= .returned (.tuple #[.pointer (some ⟨y.1.a,0,none⟩),.int .i64 0])∧Hp ⟨w,[]⟩ (arS y.1 ({ar0 th n 0 with dn:=1}) y.2.db++vS y.2 (fmtV (newV n))) w':=by
 refine V.calls [] Tryz.func45 rfl Tryz.ntmps45 (Nat.le_of_ble_eq_true rfl) (V.sat_nil _)<|Sq<|Rg<|Lv Av<|Lv Av<|Nl<|Ps<|Sq<|Rg<|Lv Mv<|Le (CM [] fun w hw hs0=>newDev_g n (by omega) (by omega) w) fun p _=>Lv Mv<|Lv Ex<|Lv Ex<|Lv Av<|Lv Av<|Nl<|Ps<|Sq<|Sq<|Rg<|Lv Mv<|Lv Cm<|Nl<|Ps<|Cf<|Sk<|Ps<|Sq<|Rg<|Lv Mv<|Lv Mv<|Le (CM (dvS p (List.replicate n ce0) ct0) fun w hw hs0=>made_g p (List.replicate n ce0) ct0 (by rw[List.length_replicate];omega) th h1 h4 0 (by omega) w hs0) fun x hx=>?_
 rw[List.length_replicate]
 refine Lv Mv<|Lv Ex<|Lv Ex<|Lv Av<|Lv Av<|Nl<|Ps<|Sq<|Sq<|Rg<|Lv Mv<|Lv Cm<|Nl<|Ps<|Cf<|Sk<|Ps<|Sq<|Rg<|Lv Mv<|Lv Nz<|Lv (Fa 0 152)<|Lv Ld<|Le (CM (([dvcB x.dv p.db 0 0]::vS p (newV n))) fun w hw hs0=>dfmt_g x.dv p (newV n) (by show 10≤(List.replicate n ce0).length∧_;rw[show(newV n).D.length=n from List.length_replicate,List.length_replicate];omega) w hs0) fun _ _=>Nl<|Ps<|Sq<|Rg<|Lv Mv<|Lv Av<|Lv Av<|Nl<|Ps<|Rt<|Rt2 ?_
 intro w' hw;exact⟨(x,p),hx,rfl,hw.pick (by repeat(first|exact .nil|apply Pick.cons|exact .here|apply Ext.there))⟩
def newW (n th:Nat)(rest:Int)(a db:Nat):Wc:=⟨n,th,rest,db,some ⟨a,0,none⟩,none,⟨0,rest⟩,List.replicate 4 ((thr0,fo0):ThO),0,0,.slice none 0 0,.slice none 0 0⟩
theorem wnew_g (n th:Nat)(rest:Int)(hn:10≤n∧n≤258)(h1:1≤th)(h4:th≤4)(hr:0≤rest∧rest≤10000)(w:World):Calls Tryz.prog 28 [.agg [.int .i64 (n:Nat),.int .i64 (th:Nat),.int .i64 rest].toArray].toArray w fun e w'=>∃z:(ArR×DvR)×Nat,z.1.1.ms.length=8∧e= .returned (.tuple #[.pointer (some ⟨z.2,0,none⟩),.int .i64 0])∧Hp ⟨w,[]⟩ ([(z.2,.cells (wcC ((newW n th rest z.1.1.a z.1.2.db))).toArray 108 (0,0))]::(arS z.1.1 ({ar0 th n 0 with dn:=1}) z.1.2.db++vS z.1.2 (fmtV (newV n)))) w':=by
 refine V.calls [] Tryz.func28 rfl Tryz.ntmps28 (Nat.le_of_ble_eq_true rfl) (V.sat_nil _)<|Sq<|Rg<|Le XA fun b1 _=>Lv Av<|Lv Av<|Nl<|Ps<|Sq<|Sq<|Rg<|Lv (Fa 2 3)<|Lv (Ld (v:= .int .i64 rest))<|Lv Cm<|LW.re 8 (.bool false) rfl (by congr 1;simp;omega)<|Lv Mv ?_
 refine LW.split (d:=9) rfl (fun h9=>?_) (fun h9=>?_)
 ·replace h9:=bT h9
  refine Lp<|Lp<|Lp<|Lv Pt<|LW.re 13 (.bool false) rfl (by congr 1;simp;omega)<|Nl<|Ps<|Cf<|Sk<|Ps<|Sq<|Rg<|Lv (Fa 0 3)<|Lv (Ld (v:= .int .i64 (n:Nat)))<|Lv (Fa 1 3)<|Lv (Ld (v:= .int .i64 (th:Nat)))<|Le (CM [] fun w hw hs0=>anew_g n th hn h1 h4 w) fun y hy=>Lv Mv<|Lv Ex<|Lv Ex<|Lv Av<|Lv Av<|Nl<|Ps<|Sq<|Sq<|Rg<|Lv Mv<|Lv Cm<|Nl<|Ps<|Cf<|Sk<|Ps<|Sq<|Dr (([(b1,.cells [.int .i64 (n:Nat),.int .i64 (th:Nat),.int .i64 rest].toArray 74 (0,0))]::arS y.1 ({ar0 th n 0 with dn:=1}) y.2.db))<|Rv 0 rfl (Lw (l:=[.int .i64 (n:Nat),.int .i64 (th:Nat),.int .i64 rest]))<|Rv 1 rfl Mv<|Rv 3 rfl Mv<|Rv 4 rfl (Fa 2 3)<|Rv 5 rfl (Ld (v:= .int .i64 rest))<|Rv 6 rfl (Bd (kpC ⟨0,rest⟩))<|Re 2 rfl (CV fun w hw=>adev_g y.1 ({ar0 th n 0 with dn:=1}) y.2.db w hw.at hw.at) fun _ _=>Rv 7 rfl (Bd (wcC (newW n th rest y.1.a y.2.db)) (hf:=by kernel_rfl))<|Re 8 rfl XA fun b33 _=>Rv 9 rfl Av<|Rv 10 rfl Av<|Rd<|Ps<|Rt<|Rt2 ?_
  intro w' hw;exact⟨(y,b33),hy,rfl,hw.pick (by repeat(first|exact .nil|apply Pick.cons|exact .here|apply Ext.there))⟩
 ·replace h9:=bF h9
  refine Lv (Fa 2 3)<|Lv (Ld (v:= .int .i64 rest))<|Lv Cm<|Lv Pf<|LW.re 13 (.bool false) rfl (by congr 1;simp;omega)<|Nl<|Ps<|Cf<|Sk<|Ps<|Sq<|Rg<|Lv (Fa 0 3)<|Lv (Ld (v:= .int .i64 (n:Nat)))<|Lv (Fa 1 3)<|Lv (Ld (v:= .int .i64 (th:Nat)))<|Le (CM [] fun w hw hs0=>anew_g n th hn h1 h4 w) fun y hy=>Lv Mv<|Lv Ex<|Lv Ex<|Lv Av<|Lv Av<|Nl<|Ps<|Sq<|Sq<|Rg<|Lv Mv<|Lv Cm<|Nl<|Ps<|Cf<|Sk<|Ps<|Sq<|Dr (([(b1,.cells [.int .i64 (n:Nat),.int .i64 (th:Nat),.int .i64 rest].toArray 74 (0,0))]::arS y.1 ({ar0 th n 0 with dn:=1}) y.2.db))<|Rv 0 rfl (Lw (l:=[.int .i64 (n:Nat),.int .i64 (th:Nat),.int .i64 rest]))<|Rv 1 rfl Mv<|Rv 3 rfl Mv<|Rv 4 rfl (Fa 2 3)<|Rv 5 rfl (Ld (v:= .int .i64 rest))<|Rv 6 rfl (Bd (kpC ⟨0,rest⟩))<|Re 2 rfl (CV fun w hw=>adev_g y.1 ({ar0 th n 0 with dn:=1}) y.2.db w hw.at hw.at) fun _ _=>Rv 7 rfl (Bd (wcC (newW n th rest y.1.a y.2.db)) (hf:=by kernel_rfl))<|Re 8 rfl XA fun b33 _=>Rv 9 rfl Av<|Rv 10 rfl Av<|Rd<|Ps<|Rt<|Rt2 ?_
  intro w' hw;exact⟨(y,b33),hy,rfl,hw.pick (by repeat(first|exact .nil|apply Pick.cons|exact .here|apply Ext.there))⟩
end G
end Go.Proofs.YtpjmdbifacijoaaGreatDoor
namespace Go.Proofs.YtpjmdbifacijoaaGreatDoor
open Go Go.RowKit V
set_option linter.unusedVariables false
set_option maxRecDepth 100000
namespace G
open V (str byC ownV ownG ownS ownOk)
instance:Cal Tryz.prog 92:=⟨Tryz.call92⟩
theorem wsteps_g (wb:Nat)(W:Wc)(hL:W.L.length=4)(w:World)(hs:Sat [[(wb,.cells (wcC (W)).toArray 108 (0,0))]] w):Calls Tryz.prog 66 [.pointer (some ⟨wb,0,none⟩)].toArray w fun e w'=>e= .returned (.int .i64 W.steps)∧Below w.heap.size w w':=by
 refine V.calls [[(wb,.cells (wcC (W)).toArray 108 (0,0))]] Tryz.func66 rfl Tryz.ntmps66 (Nat.le_of_ble_eq_true rfl) hs<|Sq<|Rg<|Lv Av<|Nl<|Ps<|Sq<|Sq<|Rg<|Lv Mv<|Lv EP<|Nl<|Ps<|Cf<|Sk<|Ps<|Sq<|Rg<|Lv Mv<|Lv Nz<|Lv (Fa 128 3)<|Lv (Ld (v:= .int .i64 W.steps) (hl:=wc_tl (j:=0) hL rfl))<|Lv Av<|Nl<|Ps<|Rt<|Rt1 ?_
 intro w' hw;exact⟨rfl,hw.ro (by repeat(first|exact .nil|apply Pick.cons|exact .here|apply Ext.there)) hs⟩
theorem wnow_on (wb:Nat)(W:Wc)(x:ArR)(hWa:W.a=some ⟨x.a,0,none⟩)(s:ArS)(db:Nat)(c:Ck)(hc:s.ck=ckk x.cb c)(w:World)(hs:Sat ([(wb,.cells (wcC (W)).toArray 108 (0,0))]::arS x s db) w):Calls Tryz.prog 63 [.pointer (some ⟨wb,0,none⟩)].toArray w fun e w'=>e= .returned (.int .u64 c.now)∧Below w.heap.size w w':=by
 refine V.calls ([(wb,.cells (wcC (W)).toArray 108 (0,0))]::arS x s db) Tryz.func63 rfl Tryz.ntmps63 (Nat.le_of_ble_eq_true rfl) hs<|Sq<|Rg<|Lv Av<|Nl<|Ps<|Sq<|Rg<|Lv Mv<|Le (CV fun w hw=>wstore_g wb W w (hw.sat.pick (ss:=[[(wb,.cells (wcC (W)).toArray 108 (0,0))]]) (by repeat(first|exact .nil|apply Pick.cons|exact .here|apply Ext.there)))) fun _ _=>LW.re 4 (.pointer (some ⟨x.a,0,none⟩)) rfl (by rw[hWa])<|Le (CV fun w hw=>aclock_g x s w hw.at) fun _ _=>Le (CV fun w hw=>know_g x.cb x.wb c w (by have h8:=hw.sat.pick (ss:=ckS x.cb x.wb s.ck) (by repeat(first|exact .nil|apply Pick.cons|exact .here|apply Ext.there));rw[hc] at h8;exact h8)) fun _ _=>Lv Av<|Nl<|Ps<|Rt<|Rt1 ?_
 intro w' hw;exact⟨rfl,hw.ro (by repeat(first|exact .nil|apply Pick.cons|exact .here|apply Ext.there)) hs⟩
theorem wshelf_on (wb:Nat)(W:Wc)(x:ArR)(hWa:W.a=some ⟨x.a,0,none⟩)(s:ArS)(xd:DvR)(v:Dev)(th:Nat)(hA:ArOk th v.D.length x s)(hst:tStp s.Tz)(hn:(tLinks s.Tz).length≤1000)(hq:(rgQ s.rg).length≤1000)(hln:(∀l∈tLinks s.Tz,-1000000≤l.line∧l.line≤1000000)∧(∀l∈rgQ s.rg,-1000000≤l.line∧l.line≤1000000))(w:World)(hs:Sat ([(wb,.cells (wcC (W)).toArray 108 (0,0))]::(arS x s xd.db++vS xd v)) w):Calls Tryz.prog 60 [.pointer (some ⟨wb,0,none⟩)].toArray w fun e w'=>∃y:List Lk×V.OwnO×V.OwnO,((y.1.Perm (tLinks s.Tz)∧UpL y.1)∧ownOk 2 (pairsOf v.D y.1).length ((pairsOf v.D y.1).flatMap prC) y.2.1∧ownOk 1 (textsOf v.D (rgQ s.rg)).length ((textsOf v.D (rgQ s.rg)).flatMap txC) y.2.2)∧e= .returned (.agg #[ownV (pairsOf v.D y.1).length y.2.1,ownV (textsOf v.D (rgQ s.rg)).length y.2.2])∧Hp ⟨w,[]⟩ (ownG 122 ((pairsOf v.D y.1).flatMap prC) y.2.1::[ownG 9 ((textsOf v.D (rgQ s.rg)).flatMap txC) y.2.2]) w':=by
 refine V.calls ([(wb,.cells (wcC (W)).toArray 108 (0,0))]::(arS x s xd.db++vS xd v)) Tryz.func60 rfl Tryz.ntmps60 (Nat.le_of_ble_eq_true rfl) hs<|Sq<|Rg<|Le AA fun b2 _=>Nl<|Ps<|Sq<|Rg<|Lv Mv<|Le (CV fun w hw=>wstore_g wb W w (hw.sat.pick (ss:=[[(wb,.cells (wcC (W)).toArray 108 (0,0))]]) (by repeat(first|exact .nil|apply Pick.cons|exact .here|apply Ext.there)))) fun _ _=>LW.re 4 (.pointer (some ⟨x.a,0,none⟩)) rfl (by rw[hWa])<|Le (CM ((arS x s xd.db++dvS xd v.D v.k)) fun w hw hs0=>ashelf_g x s xd v.D v.k th hA hst hn hq hln w hs0) fun y hy=>LeN (StW (cs:=[ownV (pairsOf v.D y.1).length y.2.1,ownV (textsOf v.D (rgQ s.rg)).length y.2.2]) (h1:=by simp only[List.all_cons,List.all_nil,V.ownV_one,Bool.and_true])) fun _ _=>Nl<|Ps<|Rt<|PQ.retC (l:=[ownV (pairsOf v.D y.1).length y.2.1,ownV (textsOf v.D (rgQ s.rg)).length y.2.2]) rfl rfl (by repeat(first|exact .here|exact .inner .here|exact .inner (.inner .here)|refine .there ?_)) Tryz.isAgg119 (by exact Tryz.sizeOf119) ?_
 intro w' hw;exact⟨y,hy,rfl,hp_new hs (hw.pick (ss:=(ownG 122 ((pairsOf v.D y.1).flatMap prC) y.2.1::[ownG 9 ((textsOf v.D (rgQ s.rg)).flatMap txC) y.2.2])++([(wb,.cells (wcC (W)).toArray 108 (0,0))]::(arS x s xd.db++vS xd v))) (by repeat(first|exact .nil|apply Pick.cons|exact .here|apply Ext.there)))⟩
end G
end Go.Proofs.YtpjmdbifacijoaaGreatDoor
namespace Go.Proofs.YtpjmdbifacijoaaGreatDoor
namespace V
open Go Go.Lib
def wordsB:List UInt8→List UInt8→List (List UInt8)
 |cur,[]=>if cur=[] then[] else[cur]
 |cur,b::r=>if b=32 then(if cur=[] then wordsB [] r else cur::wordsB [] r) else wordsB (cur++[b]) r
theorem wordsB_skip:∀(k:Nat) (cur l:List UInt8),(∀j,j<k→∃b,l[j]? =some b∧b≠32)→wordsB cur l=wordsB (cur++l.take k) (l.drop k)
 |0,cur,l,_=>by simp
 |k+1,cur,[],h=>by obtain⟨b,hb,_⟩:=h 0 (by omega);simp at hb
 |k+1,cur,b::t,h=>by
  obtain⟨b',hb,hn⟩:=h 0 (by omega)
  simp at hb;subst hb
  rw[wordsB,if_neg hn,wordsB_skip k (cur++[b]) t (fun j hj=>by have:=h (j+1) (by omega);simpa using this)]
  simp
theorem blank_dec (s:ByteArray)(pos:Nat)(hp:pos<s.size):(decide ((Utf8.decode s pos).1=32)=true→s.data.toList[pos]? =some 32∧(Utf8.decode s pos).2=1)∧
 (decide ((Utf8.decode s pos).1=32)=false→pos+(Utf8.decode s pos).2≤s.size∧∀j,j<(Utf8.decode s pos).2→∃b,s.data.toList[pos+j]? =some b∧b≠32):=by
 have hl:s.data.toList.length=s.size:=(size_eq s).symm
 have hw:=width_pos s pos
 have hwn:=decodeN_le_n' (s.data.toList.length-pos) (s.data.toList.getD pos 0).toNat (s.data.toList.getD (pos+1) 0).toNat (s.data.toList.getD (pos+2) 0).toNat (s.data.toList.getD (pos+3) 0).toNat (by omega)
 have hcs:=decodeN_cases (s.data.toList.length-pos) (s.data.toList.getD pos 0).toNat (s.data.toList.getD (pos+1) 0).toNat (s.data.toList.getD (pos+2) 0).toNat (s.data.toList.getD (pos+3) 0).toNat
 have hct:=decodeN_conts (s.data.toList.length-pos) (s.data.toList.getD pos 0).toNat (s.data.toList.getD (pos+1) 0).toNat (s.data.toList.getD (pos+2) 0).toNat (s.data.toList.getD (pos+3) 0).toNat
 have ha:=decodeN_ascii (s.data.toList.length-pos) (s.data.toList.getD pos 0).toNat (s.data.toList.getD (pos+1) 0).toNat (s.data.toList.getD (pos+2) 0).toNat (s.data.toList.getD (pos+3) 0).toNat
 rw[← decode_N] at hwn hcs hct ha
 have gd:∀i,i<s.size→∃b,s.data.toList[i]? =some b∧(s.data.toList.getD i 0).toNat=b.toNat:=fun i hi=>⟨s.data.toList[i]'(by omega),List.getElem?_eq_getElem _,by rw[List.getD,List.getElem?_eq_getElem (by omega)];rfl⟩
 have ne:∀b:UInt8,b.toNat≠32→b≠32:=fun b h e=>h (by rw[e];rfl)
 constructor
 ·intro h
  have h:=of_decide_eq_true h
  obtain⟨b,hb,e⟩:=gd pos hp
  rcases hcs with⟨h1,h2⟩|⟨_,_,_,h1,h2⟩|⟨_,_,_,_,h1,h2⟩|⟨h1,h2⟩|h2
  ·rw[h2] at h⊢
   refine⟨?_,rfl⟩
   rw[hb]
   congr 1
   apply UInt8.toNat_inj.1
   rw[← e];exact h
  ·rw[h2] at h;replace h:_=32:=h;omega
  ·rw[h2] at h;replace h:_=32:=h;omega
  ·omega
  ·rw[h2] at h;simp at h
 ·intro h
  have h:=of_decide_eq_false h
  clear hcs
  refine⟨by clear hct;omega,fun j hj=>?_⟩
  obtain⟨b,hb,e⟩:=gd (pos+j) (by clear hct;omega)
  refine⟨b,hb,ne b ?_⟩
  rw[← e]
  rcases j with _|_|_|_|j
  ·intro h3
   have:=ha (by rw[Nat.add_zero] at h3;omega)
   rw[this] at h
   exact h (by simpa using h3)
  ·have:=hct.1 (by omega);intro h3;rw[Nat.zero_add] at h3;omega
  ·have:=hct.2.1 (by omega);intro h3;rw[show pos+(0+1+1)=pos+2 from rfl] at h3;omega
  ·have:=hct.2.2.1 (by omega);intro h3;rw[show pos+(0+1+1+1)=pos+3 from rfl] at h3;omega
  ·have:=hct.2.2.2;omega
theorem blanks_eq (s:ByteArray):∀(f pos:Nat) (st:Option Nat) (acc:List (Nat×Nat)),s.size≤pos+f→pos≤s.size→(∀a,st=some a→a<pos)→
 acc.map (fun p=>pieceU s.data.toList p.1 p.2)++wordsB (openPiece s.data.toList st pos) (s.data.toList.drop pos)=(closeSpans s (spansFromP (fun r=>decide (r=32)) s f pos st acc)).map (fun p=>pieceU s.data.toList p.1 p.2):=by
 have hend:∀(f:Nat) (st:Option Nat) (acc:List (Nat×Nat)),(∀a,st=some a→a<s.size)→acc.map (fun p=>pieceU s.data.toList p.1 p.2)++wordsB (openPiece s.data.toList st s.size) (s.data.toList.drop s.size)=(closeSpans s (acc,st)).map (fun p=>pieceU s.data.toList p.1 p.2):=by
  intro f st acc hst
  have hd:s.data.toList.drop s.size=[]:=List.drop_eq_nil_of_le (by rw[← size_eq];exact Nat.le_refl _)
  rw[hd,wordsB]
  cases st with
  |none=>simp[closeSpans,openPiece]
  |some a=>
   have:=pieceU_ne s.data.toList a s.size (hst a rfl) (by rw[← size_eq];exact Nat.le_refl _)
   simp[closeSpans,openPiece,this]
 intro f
 induction f with
 |zero=>
  intro pos st acc h hp hst
  obtain rfl:pos=s.size:=by omega
  exact hend 0 st acc hst
 |succ f ih=>
  intro pos st acc h hp hst
  by_cases hlt:pos<s.size
  ·have hl:s.data.toList.length=s.size:=(size_eq s).symm
   obtain⟨B1,B2⟩:=blank_dec s pos hlt
   have hw:=width_pos s pos
   have hdc:s.data.toList.drop pos=s.data.toList[pos]'(by omega)::s.data.toList.drop (pos+1):=List.drop_eq_getElem_cons (by omega)
   cases hsp:decide ((Utf8.decode s pos).1=32) with
   |true=>
    obtain⟨b1,b2⟩:=B1 hsp
    have hb:s.data.toList[pos]'(by omega)=32:=by rw[List.getElem?_eq_getElem (by omega)] at b1;exact Option.some.inj b1
    simp only[spansFromP,if_pos hlt,hsp,if_true,b2]
    rw[hdc,hb,wordsB,if_pos rfl]
    cases st with
    |none=>
     have i1:=ih (pos+1) none acc (by omega) (by omega) (fun a h=>by cases h)
     simpa[openPiece] using i1
    |some a=>
     have hpn:=pieceU_ne s.data.toList a pos (hst a rfl) (by rw[← size_eq];omega)
     have i1:=ih (pos+1) none (acc++[(a,pos)]) (by omega) (by omega) (fun a h=>by cases h)
     simpa[openPiece,hpn] using i1
   |false=>
    obtain⟨b1,b2⟩:=B2 hsp
    simp only[spansFromP,if_pos hlt,hsp,Bool.false_eq_true,if_false]
    rw[wordsB_skip (Utf8.decode s pos).2 _ _ (fun j hj=>by rw[List.getElem?_drop];exact b2 j hj),List.drop_drop]
    cases st with
    |none=>
     have i1:=ih (pos+(Utf8.decode s pos).2) (some pos) acc (by omega) b1 (fun a h=>by cases h;omega)
     have e:([]:List UInt8)++(s.data.toList.drop pos).take (Utf8.decode s pos).2=pieceU s.data.toList pos (pos+(Utf8.decode s pos).2):=by
      unfold pieceU
      rw[List.nil_append,Nat.add_sub_cancel_left]
     simp only[openPiece] at i1⊢
     rw[e]
     exact i1
    |some a=>
     have i1:=ih (pos+(Utf8.decode s pos).2) (some a) acc (by omega) b1 (fun b h=>by cases h;have:=hst a rfl;omega)
     simp only[openPiece] at i1⊢
     rw[pieceU_grow _ _ _ _ (Nat.le_of_lt (hst a rfl))]
     exact i1
  ·obtain rfl:pos=s.size:=by omega
   rw[spansFromP_end _ s _ _ _ _ hlt]
   exact hend 0 st acc hst
theorem fields_words (s:ByteArray):(goFieldsP (fun r=>decide (r=32)) s).map (·.data.toList)=wordsB [] s.data.toList:=by
 have h:=blanks_eq s s.size 0 none [] (by omega) (Nat.zero_le _) (fun a h=>by cases h)
 simp only[List.map_nil,List.nil_append,openPiece,List.drop_zero] at h
 unfold goFieldsP spansOfP
 rw[h,List.map_map]
 congr 1
 funext p
 simp[pieceU]
end V
end Go.Proofs.YtpjmdbifacijoaaGreatDoor
namespace Go.Proofs.YtpjmdbifacijoaaGreatDoor.V
open Go Go.RowKit
set_option linter.unusedVariables false
section
variable {P:Program}{n:Nat}{B:Base}{ks:Ks}{sg:Sg}{d:Option Tmp}{ty:TypeId}{pos:String}{aft:Array Edge}{g:Option (Nat×Bool)}
theorem Eff.insertS {t kt et:TypeId}{x y z:Operand}{b c:Nat}{E:ME}{k:ByteArray}{v:Value}{sg':Sg}(hx:ev ks x=some (.map (some b)))(hy:ev ks y=some (.string k))(hz:ev ks z=some v)(hu:P.underlying t=some (.map kt et))(hk:P.underlying kt=some .string)
 (hU:Upd b (mpO E c) (mpO (mput E k v c) (mclk E k c)) sg sg'):Eff P n B ⟨d,.insert t x y z,ty,pos,aft,g⟩ ks sg (α:=Unit) (fun _=>True) (fun _=>undef) (fun _=>sg'):=
 Eff.setMapS hU fun a w ha hw=>by
  show(do Instr.mapUpdate t (a.eval x) (a.eval y) (a.eval z);pure .skip:Sem Next).run P w=_
  rw[ha.ev hx,ha.ev hy,ha.ev hz,Sem.run_bind,run_mapUpdate_m hu hk (hw.own _ hU.mem)];rfl
end
end Go.Proofs.YtpjmdbifacijoaaGreatDoor.V
namespace Go.Proofs.YtpjmdbifacijoaaGreatDoor
open Go Go.RowKit V
set_option linter.unusedVariables false
set_option maxRecDepth 100000
set_option maxHeartbeats 2000000
namespace G
open V (str byC ownV ownG ownS ownOk)
instance:Und Tryz.prog 36 (dOf Tryz.underlying36):=⟨Tryz.underlying36⟩
instance:Siz Tryz.prog 36 (kOf Tryz.sizeOf36):=⟨Tryz.sizeOf36⟩
instance:AgF Tryz.prog 36:=⟨Tryz.isAgg36⟩
instance:Und Tryz.prog 38 (dOf Tryz.underlying38):=⟨Tryz.underlying38⟩
instance:Zer Tryz.prog 38 (zOf Tryz.zeroValue38):=⟨Tryz.zeroValue38⟩
instance:Cal Tryz.prog 19:=⟨Tryz.call19⟩
theorem x_noescape (v:Value)(w:World):(callFunc 26 #[v]).run Tryz.prog w= .ok (.value v) w:=by
 rw[run_callFunc_extern (e:=Extern.AbiNoEscape.same) Tryz.func26 (by kernel_rfl) (by kernel_rfl) (by kernel_rfl) (by kernel_rfl)]
 rfl
theorem x_indexbyte (s:ByteArray)(c:Int)(w:World):(callFunc 104 #[.string s,.int .u8 c]).run Tryz.prog w= .ok (.value (.int .i64 (Go.Lib.indexByte s.data.toList c.toNat.toUInt8))) w:=by
 rw[run_callFunc_extern (e:=Extern.BytealgIndexByte.indexByte) Tryz.func104 (by kernel_rfl) (by kernel_rfl) (by kernel_rfl) (by kernel_rfl),Go.Lib.run_indexByteString]
 rfl
def selfP (b:Nat):Bool→Option Addr
 |true=>some ⟨b,0,none⟩
 |false=>none
def sbX (b:Nat)(u:Bool)(o:V.OwnO)(l:List UInt8):Sg:=[[(b,.cells [.pointer (selfP b u),ownV l.length o].toArray 38 (0,0))],ownG 5 (byC l) o]
def sbOk (o:V.OwnO)(l:List UInt8):Prop:=ownOk 1 l.length (byC l) o∧∀q,o=some q→0<q.2.2
theorem sbOk_nil:sbOk none []:=⟨⟨rfl,rfl⟩,fun q h=>by cases h⟩
theorem sbOk_of {o:V.OwnO}{l:List UInt8}(h:ownOk 1 l.length (byC l) o)(hl:l≠[]):sbOk o l:=⟨h,fun q hq=>by
 subst hq
 obtain⟨g,rest,cap⟩:=q
 have h1:=h.2
 simp only at h1
 have h2:=List.length_pos_iff.2 hl
 rw[V.byC_len] at h1
 simp only;omega⟩
theorem cc_c (b:Nat)(u:Bool)(v:Value)(w:World)(hs:Sat ([[(b,.cells [.pointer (selfP b u),v].toArray 38 (0,0))]]) w):Calls Tryz.prog 19 [.pointer (some ⟨b,0,none⟩)].toArray w fun e w'=>∃_u:Unit,True∧e= .returned (.tuple #[])∧Hp ⟨w,ids ([[(b,.cells [.pointer (selfP b u),v].toArray 38 (0,0))]])⟩ ([[(b,.cells [.pointer (selfP b true),v].toArray 38 (0,0))]]) w':=by
 cases u
 ·refine V.calls ([[(b,.cells [.pointer (selfP b false),v].toArray 38 (0,0))]]) Tryz.func19 rfl Tryz.ntmps19 (Nat.le_of_ble_eq_true rfl) hs<|Sq<|Rg<|Lv Mv<|Lv Nz<|Lv (Fa 0 36)<|Lv Ld<|Lv EP0<|Nl<|Ps<|Ct<|Rg<|Lv Mv<|Lv Mv<|Lv (Val.toUnsafe rfl Tryz.underlying36 Tryz.underlying70 (by kernel_rfl) (cs:=[.pointer (selfP b false),v]) (by repeat(first|exact .here|exact .inner .here|exact .inner (.inner .here)|refine .there ?_)) (Nat.zero_lt_succ _))<|Lv (Val.ext rfl (fun w hw=>x_noescape _ w))<|Lv (Val.fromUnsafe rfl Tryz.underlying70 Tryz.underlying36 (by kernel_rfl) (cs:=[.pointer (selfP b false),v]) (by repeat(first|exact .here|exact .inner .here|exact .inner (.inner .here)|refine .there ?_)) (by kernel_rfl))<|Lv Nz<|Lv (Fa 0 36)<|LeN StS fun _ _=>Nl<|PQ.end0 rfl ?_
  intro w' hw;exact⟨(),trivial,rfl,hw⟩
 ·refine V.calls ([[(b,.cells [.pointer (selfP b true),v].toArray 38 (0,0))]]) Tryz.func19 rfl Tryz.ntmps19 (Nat.le_of_ble_eq_true rfl) hs<|Sq<|Rg<|Lv Mv<|Lv Nz<|Lv (Fa 0 36)<|Lv Ld<|Lv EP<|Nl<|Ps<|Cf<|Sq<|Rg<|Lv Mv<|Lv Nz<|Lv (Fa 0 36)<|Lv Ld<|Lv Mv<|Lv (Val.neSame rfl rfl Tryz.underlying36 (by kernel_rfl))<|Nl<|Ps<|Cf<|Sk<|PQ.end0 rfl ?_
  intro w' hw;exact⟨(),trivial,rfl,hw⟩
theorem wb_c (b:Nat)(u:Bool)(o:V.OwnO)(l:List UInt8)(hk:sbOk o l)(hl:l.length≤1000000)(c:UInt8)(w:World)(hs:Sat (sbX b u o l) w):Calls Tryz.prog 15 [.pointer (some ⟨b,0,none⟩),.int .u8 (c.toNat:Nat)].toArray w fun e w'=>∃o':V.OwnO,sbOk o' (l++[c])∧e= .returned .nilIface∧Hp ⟨w,ids (sbX b u o l)⟩ (sbX b true o' (l++[c])) w':=by
 refine V.calls (sbX b u o l) Tryz.func15 rfl Tryz.ntmps15 (Nat.le_of_ble_eq_true rfl) hs<|Sq<|Rg<|Lv Av<|Nl<|Ps<|Sq<|Rg<|Lv Mv<|Le (CM ([[(b,.cells [.pointer (selfP b u),ownV l.length o].toArray 38 (0,0))]]) fun w hw hs0=>cc_c b u (ownV l.length o) w hs0) fun _ _=>Nl<|Ps<|Sq<|Rg<|Lv Mv<|Lv Mv<|Lv Nz<|Lv (Fa 1 30)<|Lv Ld<|Lv Mv<|Le (Eff.buildSlice (rfl) [_] Tryz.underlying30 Tryz.sizeOf5 (by exact Tryz.zeroValue5) rfl rfl rfl rfl (by rfl)) fun b13 _=>Le (Eff.appendAny (byC [c]) (sz:=1) (bytes:=1) (z:= .int .u8 0) (xs:=byC l) (m0:=l.length) (o:=o) (m:=1) (pk:=[ownG 5 (byC l) o]) rfl rfl Tryz.underlying30 (by kernel_rfl) rfl (by omega) (by repeat(first|exact .nil|apply Pick.cons|exact .here|apply Ext.there)) (by simp) hk.1 rfl (fun hm0=>⟨b13,0,rfl,fun w hw=>V.range_of_block (o:=0) (cs:=byC [c]) (r:=[]) (hw.own _ (show InS (b13,.cells (byC [c]).toArray 5 (0,0)) _ from(by repeat(first|exact .here|exact .inner .here|exact .inner (.inner .here)|refine .there ?_))).mem) rfl⟩) (V.byC_one _) (by omega) (by omega)) fun o2 ho2=>Lv Nz<|Lv (Fa 1 30)<|LeN (Eff.store rfl rfl (V.ownV_one _ _) (by repeat(first|exact .here|exact .inner .here|exact .inner (.inner .here)|apply Upd.there)) rfl rfl Tryz.sizeOf30) fun _ _=>Nl<|Ps<|Sq<|Rg<|Lv Av<|Nl<|Ps<|Rt<|Rt1 fun w' hw=>?_
 have h1:(l++[c]).length=l.length+1:=by simp
 have h2:sbOk o2 (l++[c]):=sbOk_of (by rw[V.byC_append,h1];exact ho2) (by simp)
 refine⟨o2,h2,rfl,?_⟩
 unfold sbX
 rw[V.byC_append,h1]
 exact hw.pick (by repeat(first|exact .nil|apply Pick.cons|exact .here|apply Ext.there))
theorem ws_c (b:Nat)(u:Bool)(o:V.OwnO)(l:List UInt8)(hk:sbOk o l)(hl:l.length≤1000000)(m:List UInt8)(hm:m.length≤1000000)(w:World)(hs:Sat (sbX b u o l) w):Calls Tryz.prog 13 [.pointer (some ⟨b,0,none⟩),str m].toArray w fun e w'=>∃o':V.OwnO,(m≠[]→sbOk o' (l++m))∧e= .returned (.tuple #[.int .i64 (m.length:Nat),.nilIface])∧Hp ⟨w,ids (sbX b u o l)⟩ (sbX b true o' (l++m)) w':=by
 refine V.calls (sbX b u o l) Tryz.func13 rfl Tryz.ntmps13 (Nat.le_of_ble_eq_true rfl) hs<|Sq<|Rg<|Lv Av<|Lv Av<|Nl<|Ps<|Sq<|Rg<|Lv Mv<|Le (CM ([[(b,.cells [.pointer (selfP b u),ownV l.length o].toArray 38 (0,0))]]) fun w hw hs0=>cc_c b u (ownV l.length o) w hs0) fun _ _=>Nl<|Ps<|Sq<|Rg<|Lv Mv<|Lv Mv<|Lv Nz<|Lv (Fa 1 30)<|Lv Ld<|Lv Mv<|Le (Eff.appendStr (l:=m) (xs:=byC l) (m0:=l.length) (o:=o) (pk:=[ownG 5 (byC l) o]) rfl rfl Tryz.underlying30 Tryz.underlying9 (by kernel_rfl) (by repeat(first|exact .nil|apply Pick.cons|exact .here|apply Ext.there)) (by simp) hk.1 (by omega)) fun o2 ho2=>Lv Nz<|Lv (Fa 1 30)<|LeN (Eff.store rfl rfl (V.ownV_one _ _) (by repeat(first|exact .here|exact .inner .here|exact .inner (.inner .here)|apply Upd.there)) rfl rfl Tryz.sizeOf30) fun _ _=>Nl<|Ps<|Sq<|Rg<|Lv Mv<|Lv (Val.lenS rfl Tryz.underlying9)<|LW.re 18 (.int .i64 (m.length:Nat)) rfl (by rw[V.str_size])<|Lv Av<|Lv Av<|Nl<|Ps<|Rt<|Rt2 fun w' hw=>?_
 have h1:(l++m).length=l.length+m.length:=by simp
 refine⟨o2,fun hne=>sbOk_of (by rw[V.byC_append,h1];exact ho2) (by simp[hne]),rfl,?_⟩
 unfold sbX
 rw[V.byC_append,h1]
 exact hw.pick (by repeat(first|exact .nil|apply Pick.cons|exact .here|apply Ext.there))
theorem st_c (b:Nat)(u:Bool)(o:V.OwnO)(l:List UInt8)(hk:sbOk o l)(hl:l.length≤1000000)(w:World)(hs:Sat (sbX b u o l) w):Calls Tryz.prog 16 [.pointer (some ⟨b,0,none⟩)].toArray w fun e w'=>∃_u:Unit,True∧e= .returned (str l)∧Hp ⟨w,ids (sbX b u o l)⟩ [] w':=by
 refine V.calls (sbX b u o l) Tryz.func16 rfl Tryz.ntmps16 (Nat.le_of_ble_eq_true rfl) hs<|Sq<|Rg<|Lv Av<|Nl<|Ps<|Sq<|Dr ([[(b,.cells [.pointer (selfP b u),ownV l.length o].toArray 38 (0,0))]])<|Rv 0 rfl Mv<|Rv 1 rfl Nz<|Rv 2 rfl (Fa 1 30)<|Rv 3 rfl Ld<|Rv 4 rfl (Val.sliceData rfl hk.2)<|Rv 5 rfl Mv<|Rv 6 rfl Nz<|Rv 7 rfl (Fa 1 30)<|Rv 8 rfl Ld<|Rv 9 rfl (Val.lenOwn rfl Tryz.underlying30 hk.1)<|Re 10 rfl (Eff.unsafeStr (l:=l) (o:=o) (pk:=[ownG 5 (byC l) o]) rfl rfl Tryz.underlying66 (by kernel_rfl) hk.1 (by omega) (by repeat(first|exact .nil|apply Pick.cons|exact .here|apply Ext.there)) (by simp)) fun _ _=>Rv 11 rfl Av<|Rd<|Ps<|Rt<|Rt1 ?_
 intro w' hw;exact⟨(),trivial,rfl,hw.pick (ss:=[]) .nil⟩
end G
end Go.Proofs.YtpjmdbifacijoaaGreatDoor
namespace Go.Proofs.YtpjmdbifacijoaaGreatDoor.V
open Go Go.RowKit
set_option linter.unusedVariables false
section
variable {P:Program}{n:Nat}{B:Base}{Q:Exit→Act→World→Prop}{ks:Ks}{sg:Sg}
theorem PI.assignedG {B':Base}{Kx:Ks}{Gp sg' r:Sg}(hs:subK Kx ks)(hp:Pick Gp sg' r):
 PI n [] (Hp B' sg') (Exit.then (fun a' W'=>Fr n Kx a'∧Hp B' Gp W') (fun _ _ _=>False)) .normal ks:=fun a w ha hw=>⟨ha.plain.sub hs,hw.pick hp⟩
end
def RPM {α γ:Type}(B:Base)(φ:List α→γ→Prop)(G:γ→Sg)(xs:List α):Exit→Act→World→Prop
 | .normal,_,W'=>∃g,φ xs g∧∃sg r,Pick (G g) sg r∧Hp B sg W'
 |_,_,_=>False
theorem Hp.ids_lt {B:Base}{sg:Sg}{W:World}(h:Hp B sg W){k:Nat}(hk:k∈ids sg):k<W.heap.size:=by
 obtain⟨p,hp,rfl⟩:=List.mem_map.1 hk
 exact lt_of_some (h.own p hp)
theorem Pick.app:∀(a r:Sg),Pick a (a++r) r
 |[],_=> .nil
 |s::a,r=> .cons .here (Pick.app a r)
theorem Hp.putOut {B:Base}{sg:Sg}{W:World}{k:Nat}{o':Obj}(h:Hp B sg W)(hB:B.w.heap.size≤k)(hk:k∉ids sg):Hp B sg (W.putObj k o'):=by
 refine⟨h.os,h.tape,h.output,by simpa[World.putObj] using h.size,fun b hb hf=>?_,fun p hp=>?_,h.lo,h.nd⟩
 ·exact(World.putObj_heap_other (by omega)).trans (h.old b hb hf)
 ·exact(World.putObj_heap_other (fun e=>hk (List.mem_map.2 ⟨p,hp,e⟩))).trans (h.own p hp)
section
variable {P:Program}{n:Nat}{B:Base}{Q:Exit→Act→World→Prop}{ks:Ks}{sg:Sg}
theorem PI.rpm {α γ:Type}{B':Base}{ds:List Deferred}{φ:List α→γ→Prop}{G:γ→Sg}{xs:List α}{sg' r:Sg}(g:γ)(h:φ xs g)(hp:Pick (G g) sg' r):PI n ds (Hp B' sg') (RPM B' φ G xs) .normal ks:=fun a w _ hw=>⟨g,h,sg',r,hp,hw⟩
theorem CW.toI {c:Code}(h:CI P n none [] (Hp B sg) Q c ks):CW P n B Q c ks sg:=fun a w ha hw=>by
 have h1:=h a w ⟨ha.defers,by
  obtain⟨t,dd⟩:=a
  have:=ha.defers
  simp only at this
  subst this
  exact ha⟩ hw
 exact wpIn_wide (n:=0).1 h1
def mks (Ds:List Nat):Seg:=Ds.map fun D=>(D,.deferred (some []))
def mke (Ds:List Nat):Seg:=Ds.map fun D=>(D,.deferred none)
theorem Hp.unmark {sg':Sg}{w:World}:∀{Ds Es:List Nat},Hp B ((mks Ds++mke Es)::sg') w→∀{fn:Func} {R:Ending→World→Prop} {tmps:Array Value},
 (∀w',Hp B ((mke Ds.reverse++mke Es)::sg') w'→∃v,(results fn tmps).run P w'= .ok v w'∧R (.returned v) w')→LeavesInM (Wd none) 0 P fn tmps R (Ds.map mkD) .returning w
 |[],Es,h,fn,R,tmps,hR=>by
  obtain⟨v,h1,h2⟩:=hR w (by simpa[mks,mke] using h)
  exact⟨v,h1,h2⟩
 |D::Ds,Es,h,fn,R,tmps,hR=>by
  have hm:(D,Obj.deferred (some []))∈(((mks (D::Ds)++mke Es)::sg':Sg)).flatten:=by simp[mks]
  have hk:=h.own _ hm
  have hlt:D<w.heap.size:=lt_of_some hk
  have hu:Upd D (.deferred (some [])) (.deferred none) ((mks (D::Ds)++mke Es)::sg') (((D,.deferred none)::(mks Ds++mke Es))::sg'):= .here
  have hw':Hp B (((D,.deferred none)::(mks Ds++mke Es))::sg') (w.putObj D (.deferred none)):=h.upd hu rfl rfl rfl (by simp[World.putObj]) (World.putObj_heap_same hlt) (fun k hk=>World.putObj_heap_other hk)
  refine⟨by simp,.inl ⟨D,_,rfl,run_takeDeferred hk,?_⟩⟩
  refine Hp.unmark (sg':=sg') (Ds:=Ds) (Es:=D::Es) (hw'.perm ?_) fun w' hw2=>hR w' (hw2.perm ?_)
  ·simp only[List.flatten_cons]
   refine List.Perm.append_right _ ?_
   show List.Perm ((D,Obj.deferred none)::(mks Ds++mke Es)) (mks Ds++(D,Obj.deferred none)::mke Es)
   exact List.perm_middle.symm
  ·simp only[List.flatten_cons]
   refine List.Perm.append_right _ ?_
   have e1:mke (D::Es)=mke [D]++mke Es:=rfl
   have e2:mke (D::Ds).reverse=mke Ds.reverse++mke [D]:=by simp[mke]
   rw[e1,e2,List.append_assoc]
theorem PI.retMs {fn:Func}{R:Ending→World→Prop}{v:Value}{Ds:List Nat}{sg' r:Sg}(hp:Pick (mks Ds::sg') sg r)(hv:∀a w sm,Fr n ks a→Hp B (sm::sg') w→(results fn a.tmps).run P w= .ok v w)(h:∀w sm,Hp B (sm::sg') w→R (.returned v) w):
 PI n (Ds.map mkD) (Hp B sg) (bodyPostM (Wd none) 0 P fn R) .ret ks:=fun a w ha hw=>by
 show LeavesInM (Wd none) 0 P fn a.tmps R a.defers .returning w
 rw[ha.defers]
 have h1:Hp B ((mks Ds++mke [])::sg') w:=by simpa[mke] using hw.pick hp
 exact Hp.unmark h1 fun w' hw'=>⟨v,hv {a with defers:=[]} w' _ ha.fr hw',h w' _ hw'⟩
theorem PI.retM2s {fn:Func}{R:Ending→World→Prop}{t u:Nat}{v x:Value}{Ds:List Nat}{sg' r:Sg}(hr:fn.results=#[.tmp t,.tmp u])(hv:look ks t=some v)(hx:look ks u=some x)(hp:Pick (mks Ds::sg') sg r)(h:∀w sm,Hp B (sm::sg') w→R (.returned (.tuple #[v,x])) w):
 PI n (Ds.map mkD) (Hp B sg) (bodyPostM (Wd none) 0 P fn R) .ret ks:=PI.retMs hp (fun a w sm ha hw=>by rw[results_tmp2 hr,getD_of (ha.at_ _ _ hv),getD_of (ha.at_ _ _ hx)]) h
end
structure BelowX (Ks:List Nat)(W W':World):Prop where
 os:W'.os=W.os
 tape:W'.tape=W.tape
 output:W'.output=W.output
 size:W.heap.size≤W'.heap.size
 block:∀k,k<W.heap.size→k∉Ks→W'.heap[k]? =W.heap[k]?
theorem BelowX.of {Ks:List Nat}{W W':World}(h:Below W.heap.size W W'):BelowX Ks W W':=⟨h.os,h.tape,h.output,h.size,fun k hk _=>h.block k hk⟩
theorem Hp.xkeep {B:Base}{sg:Sg}{W W':World}{Ks:List Nat}(h:Hp B sg W)(hb:BelowX Ks W W')(hk:∀k∈Ks,k∉ids sg∧(B.w.heap.size≤k∨k∈B.F)):Hp B sg W':=
 ⟨hb.os.trans h.os,hb.tape.trans h.tape,hb.output.trans h.output,Nat.le_trans h.size hb.size,fun b hl hf=>(hb.block b (Nat.lt_of_lt_of_le hl h.size) (fun hin=>by
  rcases(hk b hin).2 with h1|h1
  ·omega
  ·exact hf h1)).trans (h.old b hl hf),fun p hp=>(hb.block p.1 (lt_of_some (h.own p hp)) (fun hin=>(hk p.1 hin).1 (List.mem_map.2 ⟨p,hp,rfl⟩))).trans (h.own p hp),h.lo,h.nd⟩
def SeqW {α:Type}(P:Program)(gf:Nat)(lb:Array Value)(encs:α→List Value)(Px:List α→α→Prop)(S:List α→Prop)(N:Nat)(K0:List Nat)(w:World):Prop:=
 ∀(l:Nat) (J:List α→List Nat→World→Prop) (W:World),Below w.heap.size w W→
  (∀pre Ks W0 W1 new,J pre Ks W0→BelowX Ks W0 W1→(∀k∈new,W0.heap.size≤k∧k<W1.heap.size)→J pre (new++Ks) W1)→
  (∀pre x Ks W0,J pre Ks W0→Px pre x→pre.length<N→
   YieldAt (Wd none) 0 P l (encs x).toArray W0 fun e W'=>e= .returned (.bool true)∧J (pre++[x]) Ks W'∧∀k∈Ks,W'.heap[k]? =W0.heap[k]?)→
  J [] K0 W→
  Calls P gf (#[.func (.yield l) #[] #[]]++lb) W fun e W'=>(∃v,e= .returned v)∧∃xs Ks,S xs∧J xs Ks W'
def plO:Obj→Bool
 | .loop _=>false
 | .deferred _=>false
 |_=>true
def plOnly (sg:Sg):Prop:=∀p∈sg.flatten,plO p.2=true
theorem not_idsP {sg:Sg}{W:World}{k:Nat}{o:Obj}(hc:plOnly sg)(hown:∀p∈sg.flatten,W.heap[p.1]? =some p.2)(ho:W.heap[k]? =some o)(hoc:plO o=false):k∉ids sg:=fun hk=>by
 obtain⟨p,hp,rfl⟩:=List.mem_map.1 hk
 rw[hown p hp] at ho
 cases ho
 rw[hc p hp] at hoc
 cases hoc
theorem plOnly_nil:plOnly []:=fun _ h=>by simp at h
theorem plOnly_cons {s:Seg}{sg:Sg}(h:∀p∈s,plO p.2=true)(h2:plOnly sg):plOnly (s::sg):=fun p hp=>by
 simp only[List.flatten_cons,List.mem_append] at hp
 rcases hp with hp|hp
 ·exact h p hp
 ·exact h2 p hp
theorem plOnly_app {a b:Sg}(ha:plOnly a)(hb:plOnly b):plOnly (a++b):=fun p hp=>by
 simp only[List.flatten_append,List.mem_append] at hp
 rcases hp with hp|hp
 ·exact ha p hp
 ·exact hb p hp
theorem plSeg_one {b:Nat}{c:Array Value}{t:TypeId}{f:Nat×Nat}:∀p∈[((b,.cells c t f):Nat×Obj)],plO p.2=true:=fun p hp=>by
 obtain rfl:p=_:=by simpa using hp
 rfl
theorem plSeg_own {e:TypeId}{xs:List Value}{o:OwnO}:∀p∈ownG e xs o,plO p.2=true:=fun p hp=>by
 rcases o with _|⟨g,r,c⟩
 ·simp[ownG,ownS] at hp
 ·obtain rfl:p=_:=by simpa[ownG,ownS] using hp
  rfl
section
variable {P:Program}{n:Nat}{B:Base}{Q:Exit→Act→World→Prop}{ks:Ks}{sg:Sg}
theorem CI.rangeFuncW {ds:List Deferred}{α γ:Type}{g:Operand}{ps:List Tmp}{assign body:Code}{gf:Nat}{lb:List Value}{r:Sg}
 (encs:α→List Value)(Px:List α→α→Prop)(S:List α→Prop)(N:Nat)(K:List Nat)(φ:List α→γ→Prop)(G:γ→Sg)(Kb:α→Ks)(g0:γ)(R:Sg)
 (hg:ev ks g=some (.func (.func gf) #[] lb.toArray))(eg:∀(args:Array Value) (w:World),(callFunc gf args).run P w= .ok (.enter gf args) w)(hl:∀x,(encs x).length=ps.length)(hpn:ps.all (fun p=>Nat.blt p n)=true)
 (hseq:∀w,Hp B sg w→SeqW P gf lb.toArray encs Px S N K w)
 (hK:∀w,Hp B sg w→∀k∈K,k<w.heap.size∧k∉ids (G g0++R)∧(B.w.heap.size≤k∨k∈B.F))
 (hG:Pick (G g0++R) sg r)(hGc:∀pre g,φ pre g→plOnly (G g))(hP0:φ [] g0)
 (hassign:∀l pre x g W,Px pre x→φ pre g→Hp B (G g) W→CI P n (some l) [] (Hp ⟨W,ids (G g)⟩ (G g)) (Exit.then (fun a' W'=>Fr n (Kb x) a'∧Hp ⟨W,ids (G g)⟩ (G g) W') (fun _ _ _=>False)) assign (zipK ps (encs x) ks))
 (hbody:∀l pre x g W,Px pre x→φ pre g→Hp B (G g) W→pre.length<N→CI P n (some l) [] (Hp ⟨W,ids (G g)⟩ (G g)) (RPM ⟨W,ids (G g)⟩ φ G (pre++[x])) body (Kb x))
 (hdone:∀D xs g,S xs→φ xs g→PI n (mkD D::ds) (Hp B ([(D,.deferred (some []))]::(G g++R))) Q .normal ks):CI P n none ds (Hp B sg) Q (.rangeFunc g ps.toArray assign body) ks:=fun a w ha hw=>by
 refine wpIn_n (ro:=none) (m:=2) ?_
 have hG0:=hw.pick hG
 have hRlt:∀k∈ids R,k<w.heap.size:=fun k hk=>hG0.ids_lt (by simp only[ids,List.flatten_append,List.map_append,List.mem_append];exact .inr hk)
 have noR:∀{sx:Sg} {X:World} {k:Nat} {o:Obj},plOnly sx→Hp B (sx++R) X→X.heap[k]? =some o→plO o=false→w.heap.size≤k→k∉ids (sx++R):=fun {sx X k o} hc hx hk hoc hle hin=>by
  rcases mem_ids_append hin with h6|h6
  ·exact not_idsP hc hx.left.own hk hoc h6
  ·have:=hRlt k h6;omega
 refine wpIn_rangeFunc ?_
 intro fn hfn
 rw[show(Wd none).round=none from rfl]
 obtain⟨rec,hrec⟩:∃rec:LoopState→Option Code→Loop,rec=fun st pe=>{state:=st,pending:=pe,fn,tmps:=a.tmps,params:=ps.toArray,assign,body,defers:=w.heap.size}:=⟨_,rfl⟩
 obtain⟨W1,hW1⟩:∃W1,(w.alloc (.deferred (some []))).alloc (.loop (rec .ready none))=W1:=⟨_,rfl⟩
 have hb1:Below w.heap.size w W1:=by rw[← hW1];exact((Below.refl _ w).alloc (Nat.le_refl _) _).alloc (by simp) _
 have hsz1:W1.heap.size=w.heap.size+2:=by rw[← hW1];simp
 have hL1:W1.heap[w.heap.size+1]? =some (.loop (rec .ready none)):=by
  rw[← hW1];have:=World.alloc_heap_new (w.alloc (.deferred (some []))) (.loop (rec .ready none));rwa [World.size_alloc] at this
 have hD1:W1.heap[w.heap.size]? =some (.deferred (some [])):=by
  rw[← hW1];exact(Below.heap_alloc _ _ _ (by simp)).trans (World.alloc_heap_new w _)
 refine⟨w.heap.size+1,[mkD w.heap.size],W1,{target:= .fn (.func gf) lb.toArray,args:=#[.func (.yield (w.heap.size+1)) #[] #[]]},W1,gf,#[.func (.yield (w.heap.size+1)) #[] #[]]++lb.toArray,W1,?_,?_,?_,?_,fun _=>(by decide),?_⟩
 ·rw[← hW1,hrec];exact run_enterLoop_outer _ _ _ _ _
 ·simp only[resolve,ha.ev hg]
  simp[go_sem]
 ·intro f' hf';exact trivial
 ·simp[invoke,go_sem,eg]
 ·let J:List α→List Nat→World→Prop:=fun pre Ks W=>(∃g,φ pre g∧Hp B (G g++R) W∧∀k∈Ks,k<W.heap.size∧k∉ids (G g++R)∧(B.w.heap.size≤k∨k∈B.F)∧k≠w.heap.size∧k≠w.heap.size+1)∧w.heap.size+2≤W.heap.size∧W.heap[w.heap.size+1]? =some (.loop (rec .ready none))∧W.heap[w.heap.size]? =some (.deferred (some []))
  have hcall:=hseq w hw (w.heap.size+1) J W1 hb1 ?_ ?_ ?_
  ·refine(callsIn_wd.2 hcall).mono ?_
   rintro e W2 ⟨⟨v,rfl⟩,xs,Ks,hS,⟨gx,h1,h2,_⟩,hz,hl2,hd2⟩
   have hw3:∀o',Hp B (G gx++R) (W2.putObj (w.heap.size+1) o'):=fun o'=>h2.putOut (Nat.le_trans hw.size (Nat.le_succ _)) (noR (hGc _ _ h1) h2 hl2 rfl (Nat.le_succ _))
   refine⟨none,_,by have:=run_endLoop (P:=P) hl2 (by rw[hrec];simp);rw[hrec] at this;exact this,?_⟩
   have hd3:∀o',(W2.putObj (w.heap.size+1) o').heap[w.heap.size]? =some (.deferred (some [])):=fun o'=>(World.putObj_heap_other (by omega)).trans hd2
   have hDn:w.heap.size∉ids (G gx++R):=noR (hGc _ _ h1) (hw3 (.deferred none)) (hd3 _) rfl (Nat.le_refl _)
   exact hdone w.heap.size xs gx hS h1 _ _ ⟨by show[mkD w.heap.size]++a.defers=_;rw[ha.defers];rfl,ha.fr⟩ ((hw3 _).cons (hd3 _) (.inl hw.size) hDn)
  ·rintro pre Ks X Y new ⟨⟨gx,h1,h2,h3⟩,hz,hl2,hd2⟩ hb hn
   have hn2:w.heap.size+1∉Ks:=fun hin=>(h3 _ hin).2.2.2.2 rfl
   have hn3:w.heap.size∉Ks:=fun hin=>(h3 _ hin).2.2.2.1 rfl
   refine⟨⟨gx,h1,h2.xkeep hb (fun k hk=>⟨(h3 k hk).2.1,(h3 k hk).2.2.1⟩),fun k hk=>?_⟩,Nat.le_trans hz hb.size,(hb.block _ (lt_of_some hl2) hn2).trans hl2,(hb.block _ (lt_of_some hd2) hn3).trans hd2⟩
   rcases List.mem_append.1 hk with hk|hk
   ·have h4:=hn k hk
    exact⟨h4.2,fun hin=>by have:=h2.ids_lt hin;omega,.inl (Nat.le_trans h2.size h4.1),by omega,by omega⟩
   ·have h4:=h3 k hk
    exact⟨Nat.lt_of_lt_of_le h4.1 hb.size,h4.2⟩
  ·rintro pre x Ks X1 ⟨⟨gx,h1,h2,h3⟩,hz,hl3,hd3⟩ hPx hlen
   have hBR:=h2
   have hB:=hBR.left
   have hcm:plOnly (G gx):=hGc _ _ h1
   have hy:=run_yield (P:=P) (args:=(encs x).toArray) hl3 (by rw[hrec];simp[hl x])
   rw[hrec] at hy
   have hz2:(ps.toArray.zip (encs x).toArray).foldl (fun t (p,v)=>t.setIfInBounds p v) a.tmps=(ps.zip (encs x)).foldl (fun t (p,v)=>t.setIfInBounds p v) a.tmps:=by
    rw[List.zip_toArray,List.foldl_toArray]
   have hfr:Fr n (zipK ps (encs x) ks) {tmps:=(ps.zip (encs x)).foldl (fun t (p,v)=>t.setIfInBounds p v) a.tmps,defers:=[]}:=Fr.zip hpn ha.fr
   refine⟨fn,_,assign,body,hy,roundIn_of_wpIn hfn ?_⟩
   clear hy
   simp only
   rw[hz2]
   refine wpIn_n (m:=0) (ro:=some (w.heap.size+1)) (wpIn_mono (hassign (w.heap.size+1) pre x gx X1 hPx h1 hB _ X1 ⟨rfl,hfr⟩ (Hp.start hB.sat)) fun e a' X2 q=>?_)
   cases e with
   |normal=>
    obtain⟨hf,hh⟩:=q
    have hB2:Hp B (G gx++R) X2:=hBR.call (Pick.app _ _) hh
    have keep:∀k (o:Obj),X1.heap[k]? =some o→plO o=false→X2.heap[k]? =some o:=fun k o hk hoc=>(hh.old k (lt_of_some hk) (not_idsP hcm hB.own hk hoc)).trans hk
    have hl4:=keep _ _ hl3 rfl
    have hd4:=keep _ _ hd3 rfl
    refine⟨_,run_beginRound hl4 (by rw[hrec]),?_⟩
    have hlt4:=lt_of_some hl4
    have hl5:(X2.putObj (w.heap.size+1) (.loop {rec .ready none with state:= .busy})).heap[w.heap.size+1]? =some (.loop {rec .ready none with state:= .busy}):=World.putObj_heap_same hlt4
    have hd5:(X2.putObj (w.heap.size+1) (.loop {rec .ready none with state:= .busy})).heap[w.heap.size]? =some (.deferred (some [])):=(World.putObj_heap_other (by omega)).trans hd4
    have hBR5:Hp B (G gx++R) (X2.putObj (w.heap.size+1) (.loop {rec .ready none with state:= .busy})):=hB2.putOut (Nat.le_trans hw.size (Nat.le_succ _)) (noR hcm hB2 hl4 rfl (Nat.le_succ _))
    have hB5:=hBR5.left
    have hfd:FrD n [] (Kb x) a':=by
     obtain⟨t,dd⟩:=a'
     have:=hf.defers
     simp only at this
     subst this
     exact⟨rfl,hf⟩
    refine wpIn_n (m:=0) (ro:=some (w.heap.size+1)) (wpIn_mono (hbody (w.heap.size+1) pre x gx _ hPx h1 hB5 hlen a' _ hfd (Hp.start hB5.sat)) fun e a3 X3 q=>?_)
    cases e with
    |normal=>
     obtain⟨g',hpp,sg',r',hp,hh3⟩:=q
     have hG3:=hh3.pick hp
     have hB6:Hp B (G g'++R) X3:=hBR5.call (Pick.app _ _) hG3
     have keep3:∀k (o:Obj),(X2.putObj (w.heap.size+1) (.loop {rec .ready none with state:= .busy})).heap[k]? =some o→plO o=false→X3.heap[k]? =some o:=fun k o hk hoc=>(hh3.old k (lt_of_some hk) (not_idsP hcm hB5.own hk hoc)).trans hk
     have hl6:=keep3 _ _ hl5 rfl
     have hd6:=keep3 _ _ hd5 rfl
     have hend:=run_endRound (P:=P) none hl6
     rw[hrec] at hend
     refine⟨_,_,hend,rfl,⟨⟨g',hpp,hB6.putOut (Nat.le_trans hw.size (Nat.le_succ _)) (noR (hGc _ _ hpp) hB6 hl6 rfl (Nat.le_succ _)),fun k hk=>?_⟩,?_,?_,?_⟩,fun k hk=>?_⟩
     ·have h4:=h3 k hk
      have hk2:k<X3.heap.size:=by
       have e2:=hh.size;have e3:=hh3.size
       simp only[World.putObj,Array.size_setIfInBounds] at e3
       simp only at e2
       omega
      refine⟨by simpa[World.putObj] using hk2,fun hin0=>?_,h4.2.2⟩
      rcases mem_ids_append hin0 with hin|hinR
      rotate_left
      ·exact h4.2.1 (by simp only[ids,List.flatten_append,List.map_append,List.mem_append];exact .inr hinR)
      obtain⟨p,hp2,rfl⟩:=List.mem_map.1 hin
      rcases hG3.lo p hp2 with h5|h5
      ·have e2:=hh.size
       simp only[World.putObj,Array.size_setIfInBounds] at h5
       simp only at e2
       omega
      ·exact h4.2.1 (by simp only[ids,List.flatten_append,List.map_append,List.mem_append];exact .inl h5)
     ·have e2:=hh.size;have e3:=hh3.size
      simp only[World.putObj,Array.size_setIfInBounds] at e3⊢
      simp only at e2
      omega
     ·rw[hrec];exact World.putObj_heap_same (lt_of_some hl6)
     ·exact(World.putObj_heap_other (by omega)).trans hd6
     ·have h4:=h3 k hk
      have hkn:k∉ids (G gx):=fun hin=>h4.2.1 (by simp only[ids,List.flatten_append,List.map_append,List.mem_append];exact .inl hin)
      have s1:X2.heap[k]? =X1.heap[k]? :=hh.old k (by simp only;omega) hkn
      have s2:(X2.putObj (w.heap.size+1) (.loop {rec .ready none with state:= .busy})).heap[k]? =X2.heap[k]? :=World.putObj_heap_other h4.2.2.2.2
      have s3:X3.heap[k]? =(X2.putObj (w.heap.size+1) (.loop {rec .ready none with state:= .busy})).heap[k]? :=hh3.old k (by have e2:=hh.size;simp only[World.putObj,Array.size_setIfInBounds];simp only at e2;omega) hkn
      exact(World.putObj_heap_other h4.2.2.2.2).trans (s3.trans (s2.trans s1))
    |_=>exact q.elim
   |_=>exact q.elim
  ·refine⟨⟨g0,hP0,hG0.call_ro hb1,fun k hk=>?_⟩,by omega,hL1,hD1⟩
   have h4:=hK w hw k hk
   exact⟨by omega,h4.2.1,h4.2.2,by omega,by omega⟩
end
section
variable {P:Program}{n:Nat}{Q:Exit→Act→World→Prop}{ks:Ks}{ro:Option Nat}{ds:List Deferred}{ops:Array Oper}{rest:List Oper}{op:Op}{ty:TypeId}{pos:String}{aft:Array Edge}{g:Option (Nat×Bool)}
theorem LI.zN {Z Z':World→Prop}{sg sg':Sg}{α:Type}{φ:α→Prop}{v:α→Value}(hg:gd ops ks g=some true)(he:∀w,Eff P n ⟨w,ids sg⟩ ⟨none,op,ty,pos,aft,g⟩ ks sg φ v (fun _=>sg'))
 (hZ:∀w w',Z w→Sat sg w→Hp ⟨w,ids sg⟩ sg' w'→Z' w')(h:LI P n ro ds ops (fun w=>Z' w∧Sat sg' w) Q rest ks)(hnd:isDefer op=false:=by rfl):LI P n ro ds ops (fun w=>Z w∧Sat sg w) Q (⟨none,op,ty,pos,aft,g⟩::rest) ks:=
 fun a w ha hw=>LI.eN hg (he w) (fun x _ a' w' ha' hw'=>h a' w' ha' ⟨hZ w w' hw.1 hw.2 hw',hw'.sat⟩) hnd a w ha (Hp.start hw.2)
end
theorem BelowX.hp {sg sg':Sg}{W W':World}(h:Hp ⟨W,ids sg⟩ sg' W'){Ks:List Nat}(hk:∀k∈ids sg,k∈Ks):BelowX Ks W W':=⟨h.os,h.tape,h.output,h.size,fun k hk1 hk2=>h.old k hk1 (fun h1=>hk2 (hk k h1))⟩
end Go.Proofs.YtpjmdbifacijoaaGreatDoor.V
namespace Go.Proofs.YtpjmdbifacijoaaGreatDoor
open Go Go.RowKit V
set_option linter.unusedVariables false
set_option maxRecDepth 100000
set_option maxHeartbeats 2000000
namespace G
open V (str byC ownV ownG ownS ownOk)
instance:Cal Tryz.prog 17:=⟨Tryz.call17⟩
instance:Cal Tryz.prog 41:=⟨Tryz.call41⟩
instance:Cal Tryz.prog 73:=⟨Tryz.call73⟩
def linesB:List UInt8→List UInt8→List (List UInt8)
 |cur,[]=>[cur]
 |cur,b::r=>if b=10 then cur::linesB [] r else linesB (cur++[b]) r
theorem linesB_no:∀(l cur:List UInt8),(∀k:Nat,l[k]? ≠some 10)→linesB cur l=[cur++l]
 |[],cur,_=>by simp[linesB]
 |b::r,cur,h=>by
  have h0:¬b=10:=fun e=>h 0 (by simp[e])
  rw[linesB,if_neg h0,linesB_no r (cur++[b]) (fun k=>by simpa using h (k+1))];simp
theorem linesB_at:∀(l cur:List UInt8) (o:Nat),l[o]? =some 10→(∀k:Nat,k<o→l[k]? ≠some 10)→linesB cur l=(cur++l.take o)::linesB [] (l.drop (o+1))
 |[],cur,o,h,_=>by simp at h
 |b::r,cur,0,h,_=>by simp at h;rw[linesB,if_pos h];simp
 |b::r,cur,o+1,h,h2=>by
  have h0:¬b=10:=fun e=>h2 0 (by omega) (by simp[e])
  rw[linesB,if_neg h0,linesB_at r (cur++[b]) o (by simpa using h) (fun k hk=>by simpa using h2 (k+1) (by omega))];simp
theorem slib_g (l:List UInt8)(c:UInt8)(w:World):Calls Tryz.prog 73 [str l,.int .u8 (c.toNat:Nat)].toArray w fun e w'=>e= .returned (.int .i64 (Go.Lib.indexByte l c))∧Below w.heap.size w w':=by
 refine V.calls [] Tryz.func73 rfl Tryz.ntmps73 (Nat.le_of_ble_eq_true rfl) (V.sat_nil _)<|Sq<|Rg<|Lv Av<|Nl<|Ps<|Sq<|Rg<|Lv Mv<|Lv Mv<|Le (Eff.ofVal (Val.ext (v:= .int .i64 (Go.Lib.indexByte l c)) rfl (fun w hw=>by have h:=x_indexbyte ⟨l.toArray⟩ (c.toNat:Nat) w;simpa[str] using h))) fun _ _=>Lv Av<|Nl<|Ps<|Rt<|Rt1 ?_
 intro w' hw;exact⟨rfl,hw.below⟩
theorem sli_g (l:List UInt8)(hl:l.length≤1000000)(w:World):Calls Tryz.prog 41 [str l,str [10]].toArray w fun e w'=>e= .returned (.int .i64 (Go.Lib.indexByte l 10))∧Below w.heap.size w w':=by
 refine V.calls [] Tryz.func41 rfl Tryz.ntmps41 (Nat.le_of_ble_eq_true rfl) (V.sat_nil _)<|Sq<|Rg<|Lv Av<|Nl<|Ps<|Sq<|Rg<|Lv Mv<|Lv LnS<|Lv Av<|Nl<|Ps<|Sq<|Bk<|Sq<|Rg<|Lv Mv<|Lv Cm<|LW.re 18 (.bool false) rfl (by rfl)<|Lv Mv<|Lv Mv<|Lv Mv<|Lv ES<|Lv Pf<|Lv Av<|Nl<|Ps ?_
 refine CW.cond rfl (fun h16=>?_) (fun h16=>?_)
 ·replace h16:=bT h16
  have hl1:l=[10]:=h16.symm
  refine Sq<|Rg<|Lv Av<|Nl<|Ps<|Rt<|Br<|Tr<|Rt1 ?_
  intro w' hw;exact⟨by rw[hl1];rfl,hw.below⟩
 ·replace h16:=bF h16
  refine Sq<|Rg<|Lv Mv<|Lv Cm<|LW.re 26 (.bool true) rfl (by rfl)<|Lv Av<|Nl<|Ps<|Ct<|Sq<|Rg<|Lv Mv<|Lv Mv<|Lv (V.Val.indexStr (l:=[10]) (i:=0) (u:=10) rfl rfl Tryz.underlying9 rfl)<|Le (CV fun w hw=>slib_g l 10 w) fun _ _=>Lv Av<|Nl<|Ps<|Rt<|Br<|Tr<|Rt1 ?_
  intro w' hw;exact⟨rfl,hw.below⟩
theorem sti_g (l:List UInt8)(hl:l.length≤1000000)(w:World):Calls Tryz.prog 25 [str l,str [10]].toArray w fun e w'=>e= .returned (.int .i64 (Go.Lib.indexByte l 10))∧Below w.heap.size w w':=by
 refine V.calls [] Tryz.func25 rfl Tryz.ntmps25 (Nat.le_of_ble_eq_true rfl) (V.sat_nil _)<|Sq<|Rg<|Lv Av<|Nl<|Ps<|Sq<|Rg<|Lv Mv<|Lv Mv<|Le (CV fun w hw=>sli_g l hl w) fun _ _=>Lv Av<|Nl<|Ps<|Rt<|Rt1 ?_
 intro w' hw;exact⟨rfl,hw.below⟩
theorem splits_g (l:List UInt8)(w:World):Calls Tryz.prog 17 [str l,str [10],.int .i64 0].toArray w fun e w'=>∃z:Nat×Nat×Nat,True∧e= .returned (.func (.func 23) #[] #[.pointer (some ⟨z.1,0,none⟩),.pointer (some ⟨z.2.1,0,none⟩),.pointer (some ⟨z.2.2,0,none⟩)])∧Hp ⟨w,[]⟩ [[(z.1,.cells [str [10]].toArray 9 (0,0))],[(z.2.1,.cells [str l].toArray 9 (0,0))],[(z.2.2,.cells [.int .i64 0].toArray 3 (0,0))]] w':=by
 refine V.calls [] Tryz.func17 rfl Tryz.ntmps17 (Nat.le_of_ble_eq_true rfl) (V.sat_nil _)<|Sq<|Rg<|Le XS fun b3 _=>Le XS fun b4 _=>Le XS fun b5 _=>Lv Av<|Nl<|Ps<|Sq<|Rg<|Lv Mf<|Lv Av<|Nl<|Ps<|Rt<|Rt1 ?_
 intro w' hw;exact⟨(b4,b3,b5),trivial,rfl,hw.pick (by repeat(first|exact .nil|apply Pick.cons|exact .here|apply Ext.there))⟩
theorem split_g (l:List UInt8)(w:World):Calls Tryz.prog 9 [str l,str [10]].toArray w fun e w'=>∃z:Nat×Nat×Nat,True∧e= .returned (.func (.func 23) #[] #[.pointer (some ⟨z.1,0,none⟩),.pointer (some ⟨z.2.1,0,none⟩),.pointer (some ⟨z.2.2,0,none⟩)])∧Hp ⟨w,[]⟩ [[(z.1,.cells [str [10]].toArray 9 (0,0))],[(z.2.1,.cells [str l].toArray 9 (0,0))],[(z.2.2,.cells [.int .i64 0].toArray 3 (0,0))]] w':=by
 refine V.calls [] Tryz.func9 rfl Tryz.ntmps9 (Nat.le_of_ble_eq_true rfl) (V.sat_nil _)<|Sq<|Rg<|Lv Av<|Nl<|Ps<|Sq<|Rg<|Lv Mv<|Lv Mv<|Le (CM [] fun w hw hs=>splits_g l w) fun z _=>Lv Av<|Nl<|Ps<|Rt<|Rt1 ?_
 intro w' hw;exact⟨z,trivial,rfl,hw.pick (by repeat(first|exact .nil|apply Pick.cons|exact .here|apply Ext.there))⟩
def lineV (x:List UInt8):List Value:=[str x]
theorem split_seq (cp cs cv:Nat)(l:List UInt8)(hl:l.length≤100000)(w:World)(hs:Sat [[(cp,.cells [str [10]].toArray 9 (0,0))],[(cs,.cells [str (l)].toArray 9 (0,0))],[(cv,.cells [.int .i64 0].toArray 3 (0,0))]] w):
 V.SeqW Tryz.prog 23 [.pointer (some ⟨cp,0,none⟩),.pointer (some ⟨cs,0,none⟩),.pointer (some ⟨cv,0,none⟩)].toArray lineV (fun pre x=>∃r,linesB [] l=pre++x::r) (fun xs=>xs=linesB [] l) (linesB [] l).length [cp,cs,cv] w:=by
 intro L J W hb hJ hY h0
 have hs0:Sat [[(cp,.cells [str [10]].toArray 9 (0,0))],[(cs,.cells [str (l)].toArray 9 (0,0))],[(cv,.cells [.int .i64 0].toArray 3 (0,0))]] W:=hs.below hb
 have e0:(#[Value.func (.yield L) #[] #[]]++[.pointer (some ⟨cp,0,none⟩),.pointer (some ⟨cs,0,none⟩),.pointer (some ⟨cv,0,none⟩)].toArray:Array Value)=(Value.func (.yield L) #[] #[]::[.pointer (some ⟨cp,0,none⟩),.pointer (some ⟨cs,0,none⟩),.pointer (some ⟨cv,0,none⟩)]).toArray:=by simp
 rw[e0]
 refine V.callsI (H:=fun w=>J [] [cp,cs,cv] w∧Sat [[(cp,.cells [str [10]].toArray 9 (0,0))],[(cs,.cells [str (l)].toArray 9 (0,0))],[(cv,.cells [.int .i64 0].toArray 3 (0,0))]] w) Tryz.func23 rfl Tryz.ntmps23 (Nat.le_of_ble_eq_true rfl) ⟨h0,hs0⟩<|CI.seq<|CI.seq<|CI.region<|LI.z rfl rfl (fun w hz hs=>Val.load rfl Tryz.isAgg9 (by repeat(first|exact .here|exact .inner .here|exact .inner (.inner .here)|refine .there ?_)) (by rfl))<|LI.z rfl rfl (fun w hz hs=>Val.lenStr rfl Tryz.underlying9)<|LI.z rfl rfl (fun w hz hs=>Val.cmp rfl rfl rfl)<|LI.re 11 (.bool false) rfl (by rfl)<|LI.nil<|PI.seq<|CI.cond_f rfl<|CI.skip<|PI.seq<|CI.seq<|CI.block<|CI.loop (γ:={x:List (List UInt8)×List UInt8//linesB [] l=x.1++linesB [] x.2∧x.2.length≤l.length}) (fun _=>[(0,.func (.yield L) #[] #[]),(1,.pointer (some ⟨cp,0,none⟩)),(2,.pointer (some ⟨cs,0,none⟩)),(3,.pointer (some ⟨cv,0,none⟩))]) (fun x w=>J x.1.1 [cp,cs,cv] w∧Sat [[(cp,.cells [str [10]].toArray 9 (0,0))],[(cs,.cells [str (x.1.2)].toArray 9 (0,0))],[(cv,.cells [.int .i64 0].toArray 3 (0,0))]] w) (fun x=>x.1.2.length) ⟨([],l),by simp⟩ (by repeat(first|exact trivial|refine⟨rfl,?_⟩)) (fun w h=>h) ?_
 rintro⟨⟨pre,r⟩,hx,hr⟩
 simp only at hx hr
 simp only
 refine CI.block<|CI.seq<|CI.region<|LI.z rfl rfl (fun w hz hs=>Val.load rfl Tryz.isAgg9 (by repeat(first|exact .here|exact .inner .here|exact .inner (.inner .here)|refine .there ?_)) (by rfl))<|LI.z rfl rfl (fun w hz hs=>Val.load rfl Tryz.isAgg9 (by repeat(first|exact .here|exact .inner .here|exact .inner (.inner .here)|refine .there ?_)) (by rfl))<|LI.zc rfl rfl rfl Tryz.call25 (fun w w' h hb=>by simpa using hJ _ _ w w' [] h (BelowX.of hb) (by simp)) (fun w hs=>sti_g r (by omega) w) ?_
 skip
 refine LI.z rfl rfl (fun w hz hs=>Val.assign rfl)<|LI.nil<|PI.seq<|CI.seq<|CI.seq<|CI.region<|LI.z rfl rfl (fun w hz hs=>Val.move rfl)<|LI.z rfl rfl (fun w hz hs=>Val.cmp rfl rfl rfl)<|LI.nil<|PI.seq ?_
 refine CI.cond rfl (fun h33=>?_) (fun h33=>?_)
 ·replace h33:=bT h33
  have hno:∀k:Nat,r[k]? ≠some 10:=Go.Lib.indexByte_none (by have:=Go.Lib.indexByte_ge r 10;omega)
  refine CI.exit<|PI.then_exit<|PI.in_out rfl<|PI.then_exit<|PI.in_here<|PI.seq<|CI.region<|LI.z rfl rfl (fun w hz hs=>Val.move rfl)<|LI.z rfl rfl (fun w hz hs=>Val.load rfl Tryz.isAgg9 (by repeat(first|exact .here|exact .inner .here|exact .inner (.inner .here)|refine .there ?_)) (by rfl)) ?_
  refine LI.y (Hy:=fun c w=>(c=true∧J (pre++[r]) [cp,cs,cv] w)∧Sat [[(cp,.cells [str [10]].toArray 9 (0,0))],[(cs,.cells [str (r)].toArray 9 (0,0))],[(cv,.cells [.int .i64 0].toArray 3 (0,0))]] w) rfl rfl rfl rfl ?_ ?_
  ·rintro w ⟨hj,hs⟩
   obtain⟨fn,tm,ac,bd,hr2,hR⟩:=hY pre (r) [cp,cs,cv] w hj (by rw[hx,linesB_no r [] hno];exact⟨_,rfl⟩) (by rw[hx,linesB_no r [] hno];simp)
   refine⟨fn,tm,ac,bd,hr2,hR.mono ?_⟩
   rintro e w' ⟨rfl,hj',hkp⟩
   exact⟨true,rfl,⟨rfl,hj'⟩,⟨fun p hp=>(hkp p.1 (by simp at hp;rcases hp with rfl|rfl|rfl<;>simp)).trans (hs.own p hp),hs.nd⟩⟩
  intro c
  refine LI.nil<|PI.end0 rfl ?_
  rintro w' ⟨⟨_,hj⟩,_⟩;exact⟨⟨_,rfl⟩,_,_,by rw[hx,linesB_no r [] hno];rfl,hj⟩
 ·replace h33:=bF h33
  obtain⟨o,hoI⟩:∃o:Nat,Go.Lib.indexByte r 10=o:=⟨(Go.Lib.indexByte r 10).toNat,by omega⟩
  have ho:=Go.Lib.indexByte_some hoI
  have hol:o<r.length:=(List.getElem?_eq_some_iff.1 ho.1).1
  refine CI.skip<|PI.seq<|CI.seq<|CI.region<|LI.z rfl rfl (fun w hz hs=>Val.load rfl Tryz.isAgg9 (by repeat(first|exact .here|exact .inner .here|exact .inner (.inner .here)|refine .there ?_)) (by rfl))<|LI.z rfl rfl (fun w hz hs=>Val.move rfl)<|LI.re 35 (.int .i64 (o:Nat)) rfl (by rw[hoI])<|LI.z rfl rfl (fun w hz hs=>Val.load rfl Tryz.isAgg3 (by repeat(first|exact .here|exact .inner .here|exact .inner (.inner .here)|refine .there ?_)) (by rfl))<|LI.z rfl rfl (fun w hz hs=>Val.ar rfl rfl rfl (IntWalk.i64_in _ (by omega)))<|LI.z rfl rfl (fun w hz hs=>V.Val.sliceStr (l:=r) 0 o rfl Tryz.underlying9 rfl ⟨_,rfl⟩ (by omega) (by omega))<|LI.z rfl rfl (fun w hz hs=>Val.assign rfl)<|LI.nil<|PI.seq<|CI.seq<|CI.seq<|CI.region<|LI.z rfl rfl (fun w hz hs=>Val.move rfl)<|LI.z rfl rfl (fun w hz hs=>Val.move rfl) ?_
  refine LI.y (Hy:=fun c w=>(c=true∧J (pre++[r.take o]) [cp,cs,cv] w)∧Sat [[(cp,.cells [str [10]].toArray 9 (0,0))],[(cs,.cells [str (r)].toArray 9 (0,0))],[(cv,.cells [.int .i64 0].toArray 3 (0,0))]] w) rfl rfl rfl rfl ?_ ?_
  ·rintro w ⟨hj,hs⟩
   obtain⟨fn,tm,ac,bd,hr2,hR⟩:=hY pre (r.take o) [cp,cs,cv] w hj (by rw[hx,linesB_at r [] o ho.1 ho.2];exact⟨_,rfl⟩) (by rw[hx,linesB_at r [] o ho.1 ho.2];simp)
   refine⟨fn,tm,ac,bd,hr2,hR.mono ?_⟩
   rintro e w' ⟨rfl,hj',hkp⟩
   exact⟨true,rfl,⟨rfl,hj'⟩,⟨fun p hp=>(hkp p.1 (by simp at hp;rcases hp with rfl|rfl|rfl<;>simp)).trans (hs.own p hp),hs.nd⟩⟩
  intro c
  refine LI.split (d:=41) rfl (fun h41=>?_) (fun h41=>?_)
  ·replace h41:=bT h41
   subst h41
   refine LI.z rfl rfl (fun w hz hs=>Val.not rfl)<|LI.nil<|PI.seq<|CI.cond_f rfl<|CI.skip<|PI.seq<|CI.region<|LI.z rfl rfl (fun w hz hs=>Val.load rfl Tryz.isAgg9 (by repeat(first|exact .here|exact .inner .here|exact .inner (.inner .here)|refine .there ?_)) (by rfl))<|LI.z rfl rfl (fun w hz hs=>Val.move rfl)<|LI.re 44 (.int .i64 (o:Nat)) rfl (by rw[hoI])<|LI.z rfl rfl (fun w hz hs=>Val.load rfl Tryz.isAgg9 (by repeat(first|exact .here|exact .inner .here|exact .inner (.inner .here)|refine .there ?_)) (by rfl))<|LI.z rfl rfl (fun w hz hs=>Val.lenStr rfl Tryz.underlying9)<|LI.re 46 (.int .i64 1) rfl (by rfl)<|LI.z rfl rfl (fun w hz hs=>Val.ar rfl rfl rfl (IntWalk.i64_in _ (by omega)))<|LI.z rfl rfl (fun w hz hs=>V.Val.sliceStr (l:=r) (o+1) r.length rfl Tryz.underlying9 ⟨_,rfl⟩ rfl (by omega) (by omega))<|LI.re 48 (str (r.drop (o+1))) rfl (by rw[List.take_of_length_le (by rw[List.length_drop];exact Nat.le_refl _)])<|LI.zN (Z:=fun w=>(true=true∧J (pre++[r.take o]) [cp,cs,cv] w)) (Z':=fun w=>J (pre++[r.take o]) [cp,cs,cv] w) (sg:=[[(cp,.cells [str [10]].toArray 9 (0,0))],[(cs,.cells [str (r)].toArray 9 (0,0))],[(cv,.cells [.int .i64 0].toArray 3 (0,0))]]) (sg':=[[(cp,.cells [str [10]].toArray 9 (0,0))],[(cs,.cells [str ((r.drop (o+1)))].toArray 9 (0,0))],[(cv,.cells [.int .i64 0].toArray 3 (0,0))]]) rfl (fun w=>Eff.storeX (v:=str (r.drop (o+1))) (l:=[str r]) (l':=[str (r.drop (o+1))]) rfl rfl rfl (by repeat(first|exact .here|exact .inner .here|exact .inner (.inner .here)|apply Upd.there)) rfl (Nat.zero_lt_succ _) Tryz.sizeOf9) (fun w w' hz hs hw=>by simpa using hJ _ _ w w' [] hz.2 (BelowX.hp hw (by simp[V.ids])) (by simp))<|LI.nil<|PI.in_normal ?_
   refine PI.round ⟨(pre++[r.take o],r.drop (o+1)),by simp only;rw[hx,linesB_at r [] o ho.1 ho.2];simp,by simp;omega⟩ (by simp only[List.length_drop];omega) (by repeat(first|exact trivial|refine⟨rfl,?_⟩)) (fun w h=>h)
  ·replace h41:=bF h41
   subst h41
   refine LI.z rfl rfl (fun w hz hs=>Val.not rfl)<|LI.nil<|PI.seq<|CI.cond_t rfl<|CI.ret<|PI.then_ret<|PI.in_ret<|PI.then_ret<|PI.in_ret<|PI.then_ret<|PI.ret0 rfl ?_
   rintro w' ⟨⟨hc,_⟩,_⟩;cases hc
end G
end Go.Proofs.YtpjmdbifacijoaaGreatDoor
namespace Go.Proofs.YtpjmdbifacijoaaGreatDoor.V
open Go Go.RowKit
set_option linter.unusedVariables false
section
variable {P:Program}{n:Nat}{B:Base}{ks:Ks}{sg:Sg}{d:Option Tmp}{ty:TypeId}{pos:String}{aft:Array Edge}{g:Option (Nat×Bool)}
theorem Val.loadH {t:TypeId}{x:Operand}{b o:Nat}{v:Value}(hx:ev ks x=some (.pointer (some ⟨b,o,none⟩)))(hg:∀w,(isAgg t).run P w= .ok false w)(hc:∀w,Hp B sg w→w.cell? ⟨b,o,none⟩=some v):
 Val P n B ⟨d,.load t x,ty,pos,aft,g⟩ ks sg v:=Val.load_of hx fun w hw=>run_loadVar_one (hc w hw) hg
end
end Go.Proofs.YtpjmdbifacijoaaGreatDoor.V
namespace Go.Proofs.YtpjmdbifacijoaaGreatDoor
open Go Go.RowKit V
set_option linter.unusedVariables false
set_option maxRecDepth 100000
namespace G
open V (str byC ownV ownG ownS ownOk)
instance:Und Tryz.prog 59 (dOf Tryz.underlying59):=⟨Tryz.underlying59⟩
instance:Zer Tryz.prog 59 (zOf Tryz.zeroValue59):=⟨Tryz.zeroValue59⟩
instance:Cal Tryz.prog 39:=⟨Tryz.call39⟩
def tkrC (gp:Option Addr)(n c:Nat)(bad:Bool):List Value:=[.slice gp n c,.bool bad]
def WsAt (W:V.Seg)(gp:Option Addr)(ws:List (List UInt8)):Prop:=∀w,Sat [W] w→V.slAt w gp 1 lineV ws
theorem WsAt.tl {W:V.Seg}{gp:Option Addr}{x:List UInt8}{r:List (List UInt8)}(h:WsAt W gp (x::r)){c:Nat}(hc:r.length+1≤c):WsAt W (if c=1 then gp else gp.map (·.add (1*1))) r:=fun w hw=>by
 have h1:=V.slAt_drop (k:=1) (c:=c) (h w hw) (by simp) (by simpa using hc)
 simpa using h1
theorem WsAt.hd {W:V.Seg}{gp:Option Addr}{x:List UInt8}{r:List (List UInt8)}(h:WsAt W gp (x::r)){w:World}(hw:Sat [W] w):∃b o,gp=some ⟨b,o,none⟩:=by
 obtain⟨b,o,_,e,_⟩:=V.slAt_at (h w hw) rfl (k:=0) (by simp)
 exact⟨b,o,e⟩
theorem WsAt.cell {W:V.Seg}{b o:Nat}{x:List UInt8}{r:List (List UInt8)}(h:WsAt W (some ⟨b,o,none⟩) (x::r)){w:World}(hw:Sat [W] w):w.cell? ⟨b,o,none⟩=some (str x):=by
 obtain⟨b1,o1,y,e,_,hy,hr⟩:=V.slAt_at (h w hw) rfl (k:=0) (by simp)
 cases e
 have h1:=hr 0 y hy 0 (str y) rfl
 simp at hy
 subst hy
 simpa using h1
theorem more_g (tb:Nat)(gp:Option Addr)(n c:Nat)(bad:Bool)(w:World)(hs:Sat [[(tb,.cells (tkrC gp n c bad).toArray 59 (0,0))]] w):Calls Tryz.prog 39 [.pointer (some ⟨tb,0,none⟩)].toArray w fun e w'=>e= .returned (.bool (decide (0<n)))∧Below w.heap.size w w':=by
 refine V.calls [[(tb,.cells (tkrC gp n c bad).toArray 59 (0,0))]] Tryz.func39 rfl Tryz.ntmps39 (Nat.le_of_ble_eq_true rfl) hs<|Sq<|Rg<|Lv Av<|Nl<|Ps<|Sq<|Rg<|Lv Mv<|Lv Nz<|Lv (Fa 0 23)<|Lv (Ld (v:= .slice gp n c))<|Lv Ln<|Lv Cm<|Lv Av<|Nl<|Ps<|Rt<|Rt1 ?_
 intro w' hw;exact⟨(by congr 2;simp),hw.ro (by repeat(first|exact .nil|apply Pick.cons|exact .here|apply Ext.there)) hs⟩
theorem whole_g (tb:Nat)(gp:Option Addr)(n c:Nat)(bad:Bool)(w:World)(hs:Sat [[(tb,.cells (tkrC gp n c bad).toArray 59 (0,0))]] w):Calls Tryz.prog 22 [.pointer (some ⟨tb,0,none⟩)].toArray w fun e w'=>e= .returned (.bool (!bad&& !decide (0<n)))∧Below w.heap.size w w':=by
 refine V.calls [[(tb,.cells (tkrC gp n c bad).toArray 59 (0,0))]] Tryz.func22 rfl Tryz.ntmps22 (Nat.le_of_ble_eq_true rfl) hs<|Sq<|Rg<|Lv Av<|Nl<|Ps<|Sq<|Rg<|Lv Mv<|Lv Nz<|Lv (Fa 1 4)<|Lv (Ld (v:= .bool bad))<|Lv Nt<|Lv Mv ?_
 refine LW.split (d:=8) rfl (fun h8=>?_) (fun h8=>?_)
 ·replace h8:=bT h8
  refine Lv Mv<|Le (CV fun w hw=>more_g tb gp n c bad w (hw.sat.pick (ss:=[[(tb,.cells (tkrC gp n c bad).toArray 59 (0,0))]]) (by repeat(first|exact .nil|apply Pick.cons|exact .here|apply Ext.there)))) fun _ _=>Lv Nt<|Lv Pt<|Lv Av<|Nl<|Ps<|Rt<|Rt1 ?_
  intro w' hw;exact⟨(by cases bad<;>simp_all),hw.ro (by repeat(first|exact .nil|apply Pick.cons|exact .here|apply Ext.there)) hs⟩
 ·replace h8:=bF h8
  refine Lp<|Lp<|Lp<|Lv Pf<|Lv Av<|Nl<|Ps<|Rt<|Rt1 ?_
  intro w' hw;exact⟨(by cases bad<;>simp_all),hw.ro (by repeat(first|exact .nil|apply Pick.cons|exact .here|apply Ext.there)) hs⟩
theorem word_g (tb:Nat)(W:V.Seg)(gp:Option Addr)(n c:Nat)(bad:Bool)(x:List UInt8)(r:List (List UInt8))(hW:WsAt W gp (x::r))(hn:n=r.length+1)(hc:n≤c)(w:World)(hs:Sat [[(tb,.cells (tkrC gp n c bad).toArray 59 (0,0))],W] w):Calls Tryz.prog 42 [.pointer (some ⟨tb,0,none⟩)].toArray w fun e w'=>∃_u:Unit,True∧e= .returned (str x)∧Hp ⟨w,V.ids ([[(tb,.cells (tkrC gp n c bad).toArray 59 (0,0))],W])⟩ ([[(tb,.cells (tkrC (if c=1 then gp else gp.map (·.add (1*1))) r.length (c-1) bad).toArray 59 (0,0))],W]) w':=by
 subst hn
 obtain⟨b,o,rfl⟩:=hW.hd (hs.pick (ss:=[W]) (by repeat(first|exact .nil|apply Pick.cons|exact .here|apply Ext.there)))
 refine V.calls ([[(tb,.cells (tkrC (some ⟨b,o,none⟩) (r.length+1) c bad).toArray 59 (0,0))],W]) Tryz.func42 rfl Tryz.ntmps42 (Nat.le_of_ble_eq_true rfl) hs<|Sq<|Rg<|Lv Av<|Nl<|Ps<|Sq<|Sq<|Rg<|Lv Mv<|Le (CV fun w hw=>more_g tb (some ⟨b,o,none⟩) (r.length+1) c bad w (hw.sat.pick (ss:=[[(tb,.cells (tkrC (some ⟨b,o,none⟩) (r.length+1) c bad).toArray 59 (0,0))]]) (by repeat(first|exact .nil|apply Pick.cons|exact .here|apply Ext.there)))) fun _ _=>LW.re 5 (.bool true) rfl (by simp)<|Lv Nt<|Nl<|Ps<|Cf<|Sk<|Ps<|Sq<|Rg<|Lv Mv<|Lv Nz<|Lv (Fa 0 23)<|Lv (Ld (v:= .slice (some ⟨b,o,none⟩) (r.length+1) c))<|Lv (Val.indexAddrN (i:=0) rfl rfl Tryz.underlying23 Tryz.sizeOf9 (by omega))<|Lv (V.Val.loadH rfl Tryz.isAgg9 (fun w hw=>hW.cell (hw.sat.pick (ss:=[W]) (by repeat(first|exact .nil|apply Pick.cons|exact .here|apply Ext.there)))))<|Lv Av<|Nl<|Ps<|Sq<|Rg<|Lv Mv<|Lv Mv<|Lv Nz<|Lv (Fa 0 23)<|Lv (Ld (v:= .slice (some ⟨b,o,none⟩) (r.length+1) c))<|Lv (V.Val.sliceG 1 (r.length+1) c rfl Tryz.underlying23 Tryz.sizeOf9 ⟨_,rfl⟩ rfl rfl (fun _=>rfl) (by omega) (by omega) (by omega))<|Lv Nz<|Lv (Fa 0 23)<|LeN StS fun _ _=>Nl<|Ps<|Sq<|Rg<|Lv Mv<|Lv Av<|Nl<|Ps<|Rt<|Rt1 ?_
 intro w' hw;exact⟨(),trivial,rfl,hw.pick (by repeat(first|exact .nil|apply Pick.cons|exact .here|apply Ext.there))⟩
instance:Cal Tryz.prog 90:=⟨Tryz.call90⟩
instance:Cal Tryz.prog 94:=⟨Tryz.call94⟩
instance:Cal Tryz.prog 132:=⟨Tryz.call132⟩
instance:Cal Tryz.prog 139:=⟨Tryz.call139⟩
def digL:List UInt8:=[48,49,50,51,52,53,54,55,56,57,97,98,99,100,101,102,103,104,105,106,107,108,109,110,111,112,113,114,115,116,117,118,119,120,121,122]
def smlL:List UInt8:=[48,48,48,49,48,50,48,51,48,52,48,53,48,54,48,55,48,56,48,57,49,48,49,49,49,50,49,51,49,52,49,53,49,54,49,55,49,56,49,57,50,48,50,49,50,50,50,51,50,52,50,53,50,54,50,55,50,56,50,57,51,48,51,49,51,50,51,51,51,52,51,53,51,54,51,55,51,56,51,57,52,48,52,49,52,50,52,51,52,52,52,53,52,54,52,55,52,56,52,57,53,48,53,49,53,50,53,51,53,52,53,53,53,54,53,55,53,56,53,57,54,48,54,49,54,50,54,51,54,52,54,53,54,54,54,55,54,56,54,57,55,48,55,49,55,50,55,51,55,52,55,53,55,54,55,55,55,56,55,57,56,48,56,49,56,50,56,51,56,52,56,53,56,54,56,55,56,56,56,57,57,48,57,49,57,50,57,51,57,52,57,53,57,54,57,55,57,56,57,57]
theorem digL_len:digL.length=36:=rfl
theorem smlL_len:smlL.length=200:=by kernel_rfl
def smallF (i:Nat):List UInt8:=if i<10 then(digL.drop i).take (i+1-i) else(smlL.drop (i*2)).take (i*2+2-i*2)
theorem wrp {i:Nat}(h:i<100):IntKind.i64.wrap ((i:Nat):Int)=(i:Nat):=by simp[IntKind.wrap,IntKind.bits,IntKind.signed];omega
theorem small_g (i:Nat)(hi:i<100)(w:World):Calls Tryz.prog 139 [.int .i64 (i:Nat)].toArray w fun e w'=>e= .returned (str (smallF i))∧Below w.heap.size w w':=by
 refine V.calls [] Tryz.func139 rfl Tryz.ntmps139 (Nat.le_of_ble_eq_true rfl) (V.sat_nil _)<|Sq<|Rg<|Lv Av<|Nl<|Ps<|Sq<|Sq<|Rg<|Lv Mv<|Lv Cm<|Nl<|Ps ?_
 refine CW.cond rfl (fun h4=>?_) (fun h4=>?_)
 ·replace h4:=bT h4
  have h4:i<10:=by omega
  refine Sq<|Rg<|Lv Mv<|Lv Mv<|Lv Ar<|Lv (V.Val.sliceStr (l:=digL) i (i+1) rfl Tryz.underlying9 ⟨_,rfl⟩ ⟨_,rfl⟩ (by omega) (by rw[digL_len];omega))<|Lv Av<|Nl<|Ps<|Rt<|Tr<|Rt1 ?_
  intro w' hw;exact⟨by rw[smallF,if_pos h4],hw.below⟩
 ·replace h4:=bF h4
  have h4:¬i<10:=by omega
  refine Sk<|Ps<|Sq<|Rg<|Lv Mv<|Lv Ar<|Lv Mv<|Lv Ar<|Lv Ar<|Lv (V.Val.sliceStr (l:=smlL) (i*2) (i*2+2) rfl Tryz.underlying9 ⟨_,rfl⟩ ⟨_,rfl⟩ (by omega) (by rw[smlL_len];omega))<|Lv Av<|Nl<|Ps<|Rt<|Rt1 ?_
  intro w' hw;exact⟨by rw[smallF,if_neg h4],hw.below⟩
theorem fint_g (i:Nat)(hi:i<100)(w:World):Calls Tryz.prog 132 [.int .i64 (i:Nat),.int .i64 10].toArray w fun e w'=>e= .returned (str (smallF i))∧Below w.heap.size w w':=by
 refine V.calls [] Tryz.func132 rfl Tryz.ntmps132 (Nat.le_of_ble_eq_true rfl) (V.sat_nil _)<|Sq<|Rg<|Lv Av<|Nl<|Ps<|Sq<|Sq<|Rg<|Lv Mv<|Lv Cm<|LW.re 11 (.bool true) rfl (by rfl)<|Nl<|Ps<|Ct<|Sq<|Sq<|Rg<|Lv Mv<|Lv Cm<|LW.re 13 (.bool true) rfl (by simp)<|Lv Mv<|Lv Mv<|Lv Cm<|LW.re 16 (.bool true) rfl (by congr 1;simp;omega)<|Lv Pt<|Nl<|Ps<|Ct<|Sq<|Rg<|Lv Mv<|Le (CV fun w hw=>small_g i hi w) fun _ _=>Lv Av<|Nl<|Ps<|Rt<|Tr<|Tr<|Rt1 ?_
 intro w' hw;exact⟨rfl,hw.below⟩
theorem itoa0_g (i:Nat)(hi:i<100)(w:World):Calls Tryz.prog 90 [.int .i64 (i:Nat)].toArray w fun e w'=>e= .returned (str (smallF i))∧Below w.heap.size w w':=by
 refine V.calls [] Tryz.func90 rfl Tryz.ntmps90 (Nat.le_of_ble_eq_true rfl) (V.sat_nil _)<|Sq<|Rg<|Lv Av<|Nl<|Ps<|Sq<|Rg<|Lv Mv<|Le (CV fun w hw=>fint_g i hi w) fun _ _=>Lv Av<|Nl<|Ps<|Rt<|Rt1 ?_
 intro w' hw;exact⟨rfl,hw.below⟩
theorem itoa_g (i:Nat)(hi:i<100)(w:World):Calls Tryz.prog 58 [.int .i64 (i:Nat)].toArray w fun e w'=>e= .returned (str (smallF i))∧Below w.heap.size w w':=by
 refine V.calls [] Tryz.func58 rfl Tryz.ntmps58 (Nat.le_of_ble_eq_true rfl) (V.sat_nil _)<|Sq<|Rg<|Lv Av<|Nl<|Ps<|Sq<|Rg<|Lv Mv<|Le (CV fun w hw=>itoa0_g i hi w) fun _ _=>Lv Av<|Nl<|Ps<|Rt<|Rt1 ?_
 intro w' hw;exact⟨rfl,hw.below⟩
theorem fuint0_g (i:Nat)(hi:i<100)(w:World):Calls Tryz.prog 94 [.int .u64 (i:Nat),.int .i64 10].toArray w fun e w'=>e= .returned (str (smallF i))∧Below w.heap.size w w':=by
 refine V.calls [] Tryz.func94 rfl Tryz.ntmps94 (Nat.le_of_ble_eq_true rfl) (V.sat_nil _)<|Sq<|Rg<|Lv Av<|Nl<|Ps<|Sq<|Sq<|Rg<|Lv Mv<|Lv Cm<|LW.re 10 (.bool true) rfl (by rfl)<|Nl<|Ps<|Ct<|Sq<|Sq<|Rg<|Lv Mv<|Lv Cm<|LW.re 12 (.bool true) rfl (by congr 1;simp;omega)<|Nl<|Ps<|Ct<|Sq<|Rg<|Lv Mv<|Lv Cv<|LW.re 14 (.int .i64 (i:Nat)) rfl (by congr 1;exact wrp hi)<|Le (CV fun w hw=>small_g i hi w) fun _ _=>Lv Av<|Nl<|Ps<|Rt<|Tr<|Tr<|Rt1 ?_
 intro w' hw;exact⟨rfl,hw.below⟩
theorem fuint_g (i:Nat)(hi:i<100)(w:World):Calls Tryz.prog 62 [.int .u64 (i:Nat),.int .i64 10].toArray w fun e w'=>e= .returned (str (smallF i))∧Below w.heap.size w w':=by
 refine V.calls [] Tryz.func62 rfl Tryz.ntmps62 (Nat.le_of_ble_eq_true rfl) (V.sat_nil _)<|Sq<|Rg<|Lv Av<|Nl<|Ps<|Sq<|Rg<|Lv Mv<|Lv Mv<|Le (CV fun w hw=>fuint0_g i hi w) fun _ _=>Lv Av<|Nl<|Ps<|Rt<|Rt1 ?_
 intro w' hw;exact⟨rfl,hw.below⟩
end G
end Go.Proofs.YtpjmdbifacijoaaGreatDoor
namespace Go.Proofs
open Go.Shelf
def Tryz.lays156_ren:Go.Shelf.Ren:=⟨fun|156=>61|165=>93|166=>13|169=>16|240=>19|241=>138|276=>26|277=>186|n=>n,fun|31=>23|9=>9|3=>3|4=>4|0=>0|20=>20|72=>38|76=>47|70=>36|37=>30|75=>46|127=>66|164=>70|5=>5|80=>51|n=>n,fun|n=>n⟩
theorem Tryz.lays156:Go.Proofs.Lays.n156 Tryz.prog Tryz.lays156_ren:={
 mixed:=by kernel_rfl
 f156:=Tryz.func61.trans (congrArg some (by kernel_rfl))
 f165:=Tryz.func93.trans (congrArg some (by kernel_rfl))
 f166:=Tryz.func13.trans (congrArg some (by kernel_rfl))
 f169:=Tryz.func16.trans (congrArg some (by kernel_rfl))
 f240:=Tryz.func19.trans (congrArg some (by kernel_rfl))
 f241:=Tryz.func138.trans (congrArg some (by kernel_rfl))
 f276:=Tryz.func26.trans (congrArg some (by kernel_rfl))
 f277:=Tryz.func186.trans (congrArg some (by kernel_rfl))
 t0:=Tryz.underlying0
 a0:=Tryz.isAgg0
 z0:=Tryz.sizeOf0
 v0:=Tryz.zeroValue0
 t3:=Tryz.underlying3
 a3:=Tryz.isAgg3
 z3:=Tryz.sizeOf3
 v3:=Tryz.zeroValue3
 t4:=Tryz.underlying4
 a4:=Tryz.isAgg4
 z4:=Tryz.sizeOf4
 v4:=Tryz.zeroValue4
 t9:=Tryz.underlying9
 a9:=Tryz.isAgg9
 z9:=Tryz.sizeOf9
 v9:=Tryz.zeroValue9
 t20:=Tryz.underlying20
 a20:=Tryz.isAgg20
 z20:=Tryz.sizeOf20
 v20:=Tryz.zeroValue20
 t31:=Tryz.underlying23
 a31:=Tryz.isAgg23
 z31:=Tryz.sizeOf23
 v31:=Tryz.zeroValue23
 t37:=Tryz.underlying30
 a37:=Tryz.isAgg30
 z37:=Tryz.sizeOf30
 v37:=Tryz.zeroValue30
 t70:=Tryz.underlying36
 a70:=Tryz.isAgg36
 z70:=Tryz.sizeOf36
 v70:=Tryz.zeroValue36
 t72:=Tryz.underlying38
 a72:=Tryz.isAgg38
 z72:=Tryz.sizeOf38
 v72:=Tryz.zeroValue38
 t75:=Tryz.underlying46
 a75:=Tryz.isAgg46
 z75:=Tryz.sizeOf46
 v75:=Tryz.zeroValue46
 t76:=Tryz.underlying47
 a76:=Tryz.isAgg47
 z76:=Tryz.sizeOf47
 v76:=Tryz.zeroValue47
 t127:=Tryz.underlying66
 a127:=Tryz.isAgg66
 z127:=Tryz.sizeOf66
 v127:=Tryz.zeroValue66
 t164:=Tryz.underlying70
 a164:=Tryz.isAgg70
 z164:=Tryz.sizeOf70
 v164:=Tryz.zeroValue70}
theorem Tryz.Builder_Extra_156:Builder.Extra Tryz.prog Tryz.lays156_ren:={
 sizeBuilder:=by kernel_rfl
 liesBuilder:=by kernel_rfl
 t5:=Tryz.underlying5
 a5:=Tryz.isAgg5
 z5:=Tryz.sizeOf5
 v5:=Tryz.zeroValue5
 infoByte:=by kernel_rfl
 cellsByte:=by kernel_rfl
 sizeByte:=by kernel_rfl
 neB5:=by decide}
open Go.RowKit in
theorem Tryz.strings_Join_none (a:Option Addr)(c:Nat)(sep:ByteArray)(w:World):
 Calls Tryz.prog 61 #[.slice a 0 c,.string sep] w fun e w'=>e= .returned (.string ⟨#[]⟩)∧w'=w:=Any.strings_Join_none Tryz.lays156 Tryz.Builder_Extra_156 a c sep w
open Go.RowKit in
theorem Tryz.strings_Join (bk o c:Nat)(xs:List ByteArray)(sep:ByteArray)(w:World)(hcells:∀(j:Nat) x,xs[j]? =some x→w.cell? ⟨bk,o+j,none⟩=some (.string x))(hbk:bk<w.heap.size)(hN:xs.length≤140737488355328)(hcap:xs.length≤c)(hlen:(Lib.join (xs.map (·.data.toList)) sep.data.toList).length≤140737488355328):
 Calls Tryz.prog 61 #[.slice (some ⟨bk,o,none⟩) xs.length c,.string sep] w fun e w'=>e= .returned (.string ⟨(Lib.join (xs.map (·.data.toList)) sep.data.toList).toArray⟩)∧Below w.heap.size w w':=Any.strings_Join Tryz.lays156 Tryz.Builder_Extra_156 bk o c xs sep w hcells hbk hN hcap hlen
def Tryz.lays160_ren:Go.Shelf.Ren:=⟨fun|160=>43|232=>78|231=>77|227=>79|234=>81|233=>80|236=>83|235=>82|228=>106|271=>108|151=>107|197=>24|120=>153|152=>152|260=>40|137=>199|119=>200|224=>75|225=>74|217=>73|266=>104|n=>n,fun|9=>9|4=>4|3=>3|5=>5|117=>144|116=>143|0=>0|124=>147|21=>21|105=>67|46=>52|119=>135|139=>138|138=>137|n=>n,fun|3=>0|4=>1|n=>n⟩
theorem Tryz.lays160:Go.Proofs.Lays.n160 Tryz.prog Tryz.lays160_ren:={
 mixed:=by kernel_rfl
 f119:=Tryz.func200.trans (congrArg some (by kernel_rfl))
 f120:=Tryz.func153.trans (congrArg some (by kernel_rfl))
 f137:=Tryz.func199.trans (congrArg some (by kernel_rfl))
 f151:=Tryz.func107.trans (congrArg some (by kernel_rfl))
 f152:=Tryz.func152.trans (congrArg some (by kernel_rfl))
 f160:=Tryz.func43.trans (congrArg some (by kernel_rfl))
 f197:=Tryz.func24.trans (congrArg some (by kernel_rfl))
 f217:=Tryz.func73.trans (congrArg some (by kernel_rfl))
 f224:=Tryz.func75.trans (congrArg some (by kernel_rfl))
 f225:=Tryz.func74.trans (congrArg some (by kernel_rfl))
 f227:=Tryz.func79.trans (congrArg some (by kernel_rfl))
 f228:=Tryz.func106.trans (congrArg some (by kernel_rfl))
 f231:=Tryz.func77.trans (congrArg some (by kernel_rfl))
 f232:=Tryz.func78.trans (congrArg some (by kernel_rfl))
 f233:=Tryz.func80.trans (congrArg some (by kernel_rfl))
 f234:=Tryz.func81.trans (congrArg some (by kernel_rfl))
 f235:=Tryz.func82.trans (congrArg some (by kernel_rfl))
 f236:=Tryz.func83.trans (congrArg some (by kernel_rfl))
 f260:=Tryz.func40.trans (congrArg some (by kernel_rfl))
 f266:=Tryz.func104.trans (congrArg some (by kernel_rfl))
 f271:=Tryz.func108.trans (congrArg some (by kernel_rfl))
 t0:=Tryz.underlying0
 a0:=Tryz.isAgg0
 z0:=Tryz.sizeOf0
 v0:=Tryz.zeroValue0
 t3:=Tryz.underlying3
 a3:=Tryz.isAgg3
 z3:=Tryz.sizeOf3
 v3:=Tryz.zeroValue3
 t4:=Tryz.underlying4
 a4:=Tryz.isAgg4
 z4:=Tryz.sizeOf4
 v4:=Tryz.zeroValue4
 t5:=Tryz.underlying5
 a5:=Tryz.isAgg5
 z5:=Tryz.sizeOf5
 v5:=Tryz.zeroValue5
 t9:=Tryz.underlying9
 a9:=Tryz.isAgg9
 z9:=Tryz.sizeOf9
 v9:=Tryz.zeroValue9
 t21:=Tryz.underlying21
 a21:=Tryz.isAgg21
 z21:=Tryz.sizeOf21
 v21:=Tryz.zeroValue21
 t46:=Tryz.underlying52
 a46:=Tryz.isAgg52
 z46:=Tryz.sizeOf52
 v46:=Tryz.zeroValue52
 t105:=Tryz.underlying67
 a105:=Tryz.isAgg67
 z105:=Tryz.sizeOf67
 v105:=Tryz.zeroValue67
 t116:=Tryz.underlying143
 a116:=Tryz.isAgg143
 z116:=Tryz.sizeOf143
 t117:=Tryz.underlying144
 a117:=Tryz.isAgg144
 z117:=Tryz.sizeOf144
 v117:=Tryz.zeroValue144
 t119:=Tryz.underlying135
 a119:=Tryz.isAgg135
 z119:=Tryz.sizeOf135
 t124:=Tryz.underlying147
 a124:=Tryz.isAgg147
 z124:=Tryz.sizeOf147
 v124:=Tryz.zeroValue147
 t138:=Tryz.underlying137
 a138:=Tryz.isAgg137
 z138:=Tryz.sizeOf137
 v138:=Tryz.zeroValue137
 t139:=Tryz.underlying138
 a139:=Tryz.isAgg138
 z139:=Tryz.sizeOf138
 v139:=Tryz.zeroValue138
 g3:=by kernel_rfl
 g4:=by kernel_rfl}
def Tryz.lays172_ren:Go.Shelf.Ren:=⟨fun|172=>44|244=>84|245=>85|247=>109|279=>110|280=>111|281=>112|282=>113|287=>154|316=>155|171=>58|205=>156|321=>201|322=>202|243=>90|246=>132|283=>139|284=>140|285=>141|286=>142|129=>188|317=>187|318=>189|319=>190|320=>191|337=>235|338=>236|n=>n,fun|9=>9|3=>3|75=>46|76=>47|4=>4|5=>5|167=>199|37=>30|0=>0|85=>200|2=>2|168=>202|53=>92|175=>249|46=>52|210=>253|127=>66|145=>328|143=>326|21=>21|171=>229|173=>232|212=>314|51=>168|20=>20|213=>315|232=>424|233=>334|80=>51|n=>n,fun|15=>3|16=>4|17=>5|18=>6|19=>7|n=>n⟩
theorem Tryz.lays172:Go.Proofs.Lays.n172 Tryz.prog Tryz.lays172_ren:={
 mixed:=by kernel_rfl
 f129:=Tryz.func188.trans (congrArg some (by kernel_rfl))
 f171:=Tryz.func58.trans (congrArg some (by kernel_rfl))
 f172:=Tryz.func44.trans (congrArg some (by kernel_rfl))
 f205:=Tryz.func156.trans (congrArg some (by kernel_rfl))
 f243:=Tryz.func90.trans (congrArg some (by kernel_rfl))
 f244:=Tryz.func84.trans (congrArg some (by kernel_rfl))
 f245:=Tryz.func85.trans (congrArg some (by kernel_rfl))
 f246:=Tryz.func132.trans (congrArg some (by kernel_rfl))
 f247:=Tryz.func109.trans (congrArg some (by kernel_rfl))
 f279:=Tryz.func110.trans (congrArg some (by kernel_rfl))
 f280:=Tryz.func111.trans (congrArg some (by kernel_rfl))
 f281:=Tryz.func112.trans (congrArg some (by kernel_rfl))
 f282:=Tryz.func113.trans (congrArg some (by kernel_rfl))
 f283:=Tryz.func139.trans (congrArg some (by kernel_rfl))
 f284:=Tryz.func140.trans (congrArg some (by kernel_rfl))
 f285:=Tryz.func141.trans (congrArg some (by kernel_rfl))
 f286:=Tryz.func142.trans (congrArg some (by kernel_rfl))
 f287:=Tryz.func154.trans (congrArg some (by kernel_rfl))
 f316:=Tryz.func155.trans (congrArg some (by kernel_rfl))
 f317:=Tryz.func187.trans (congrArg some (by kernel_rfl))
 f318:=Tryz.func189.trans (congrArg some (by kernel_rfl))
 f319:=Tryz.func190.trans (congrArg some (by kernel_rfl))
 f320:=Tryz.func191.trans (congrArg some (by kernel_rfl))
 f321:=Tryz.func201.trans (congrArg some (by kernel_rfl))
 f322:=Tryz.func202.trans (congrArg some (by kernel_rfl))
 f337:=Tryz.func235.trans (congrArg some (by kernel_rfl))
 f338:=Tryz.func236.trans (congrArg some (by kernel_rfl))
 t0:=Tryz.underlying0
 a0:=Tryz.isAgg0
 z0:=Tryz.sizeOf0
 v0:=Tryz.zeroValue0
 t2:=Tryz.underlying2
 a2:=Tryz.isAgg2
 z2:=Tryz.sizeOf2
 v2:=Tryz.zeroValue2
 t3:=Tryz.underlying3
 a3:=Tryz.isAgg3
 z3:=Tryz.sizeOf3
 v3:=Tryz.zeroValue3
 t4:=Tryz.underlying4
 a4:=Tryz.isAgg4
 z4:=Tryz.sizeOf4
 v4:=Tryz.zeroValue4
 t5:=Tryz.underlying5
 a5:=Tryz.isAgg5
 z5:=Tryz.sizeOf5
 v5:=Tryz.zeroValue5
 t9:=Tryz.underlying9
 a9:=Tryz.isAgg9
 z9:=Tryz.sizeOf9
 v9:=Tryz.zeroValue9
 t20:=Tryz.underlying20
 a20:=Tryz.isAgg20
 z20:=Tryz.sizeOf20
 v20:=Tryz.zeroValue20
 t21:=Tryz.underlying21
 a21:=Tryz.isAgg21
 z21:=Tryz.sizeOf21
 v21:=Tryz.zeroValue21
 t37:=Tryz.underlying30
 a37:=Tryz.isAgg30
 z37:=Tryz.sizeOf30
 v37:=Tryz.zeroValue30
 t46:=Tryz.underlying52
 a46:=Tryz.isAgg52
 z46:=Tryz.sizeOf52
 v46:=Tryz.zeroValue52
 t51:=Tryz.underlying168
 a51:=Tryz.isAgg168
 z51:=Tryz.sizeOf168
 v51:=Tryz.zeroValue168
 t53:=Tryz.underlying92
 a53:=Tryz.isAgg92
 z53:=Tryz.sizeOf92
 v53:=Tryz.zeroValue92
 t75:=Tryz.underlying46
 a75:=Tryz.isAgg46
 z75:=Tryz.sizeOf46
 v75:=Tryz.zeroValue46
 t76:=Tryz.underlying47
 a76:=Tryz.isAgg47
 z76:=Tryz.sizeOf47
 v76:=Tryz.zeroValue47
 t85:=Tryz.underlying200
 a85:=Tryz.isAgg200
 z85:=Tryz.sizeOf200
 v85:=Tryz.zeroValue200
 t127:=Tryz.underlying66
 a127:=Tryz.isAgg66
 z127:=Tryz.sizeOf66
 v127:=Tryz.zeroValue66
 t143:=Tryz.underlying326
 a143:=Tryz.isAgg326
 z143:=Tryz.sizeOf326
 v143:=Tryz.zeroValue326
 t145:=Tryz.underlying328
 a145:=Tryz.isAgg328
 z145:=Tryz.sizeOf328
 v145:=Tryz.zeroValue328
 t167:=Tryz.underlying199
 a167:=Tryz.isAgg199
 z167:=Tryz.sizeOf199
 v167:=Tryz.zeroValue199
 t168:=Tryz.underlying202
 a168:=Tryz.isAgg202
 z168:=Tryz.sizeOf202
 v168:=Tryz.zeroValue202
 t171:=Tryz.underlying229
 a171:=Tryz.isAgg229
 z171:=Tryz.sizeOf229
 v171:=Tryz.zeroValue229
 t173:=Tryz.underlying232
 a173:=Tryz.isAgg232
 z173:=Tryz.sizeOf232
 v173:=Tryz.zeroValue232
 t175:=Tryz.underlying249
 a175:=Tryz.isAgg249
 z175:=Tryz.sizeOf249
 v175:=Tryz.zeroValue249
 t210:=Tryz.underlying253
 a210:=Tryz.isAgg253
 z210:=Tryz.sizeOf253
 v210:=Tryz.zeroValue253
 t212:=Tryz.underlying314
 a212:=Tryz.isAgg314
 z212:=Tryz.sizeOf314
 v212:=Tryz.zeroValue314
 t213:=Tryz.underlying315
 a213:=Tryz.isAgg315
 z213:=Tryz.sizeOf315
 t232:=Tryz.underlying424
 a232:=Tryz.isAgg424
 z232:=Tryz.sizeOf424
 v232:=Tryz.zeroValue424
 t233:=Tryz.underlying334
 a233:=Tryz.isAgg334
 z233:=Tryz.sizeOf334
 v233:=Tryz.zeroValue334
 g15:=by kernel_rfl
 g16:=by kernel_rfl
 g17:=by kernel_rfl
 g18:=by kernel_rfl
 g19:=by kernel_rfl}
open Go.RowKit in
theorem Tryz.strconv_Atoi (s:ByteArray)(n:Int)(hl:s.size≤18)(h:Lib.atoi s.data.toList=some n)(w:World):
 Calls Tryz.prog 44 #[.string s] w fun e w'=>e= .returned (.tuple #[.int .i64 n,.nilIface])∧∃t,w'=Lib.bytesWorld w 5 t:=Any.strconv_Atoi Tryz.lays172 s n hl h w
def Tryz.lays229_ren:Go.Shelf.Ren:=⟨fun|229=>10|n=>n,fun|9=>9|40=>43|31=>23|152=>54|3=>3|0=>0|4=>4|21=>21|154=>56|n=>n,fun|n=>n⟩
theorem Tryz.lays229:Go.Proofs.Lays.n229 Tryz.prog Tryz.lays229_ren:={
 mixed:=by kernel_rfl
 f229:=Tryz.func10.trans (congrArg some (by kernel_rfl))
 t0:=Tryz.underlying0
 a0:=Tryz.isAgg0
 z0:=Tryz.sizeOf0
 v0:=Tryz.zeroValue0
 t3:=Tryz.underlying3
 a3:=Tryz.isAgg3
 z3:=Tryz.sizeOf3
 v3:=Tryz.zeroValue3
 t4:=Tryz.underlying4
 a4:=Tryz.isAgg4
 z4:=Tryz.sizeOf4
 v4:=Tryz.zeroValue4
 t9:=Tryz.underlying9
 a9:=Tryz.isAgg9
 z9:=Tryz.sizeOf9
 v9:=Tryz.zeroValue9
 t21:=Tryz.underlying21
 a21:=Tryz.isAgg21
 z21:=Tryz.sizeOf21
 v21:=Tryz.zeroValue21
 t31:=Tryz.underlying23
 a31:=Tryz.isAgg23
 z31:=Tryz.sizeOf23
 v31:=Tryz.zeroValue23
 t40:=Tryz.underlying43
 a40:=Tryz.isAgg43
 z40:=Tryz.sizeOf43
 v40:=Tryz.zeroValue43
 t152:=Tryz.underlying54
 a152:=Tryz.isAgg54
 z152:=Tryz.sizeOf54
 v152:=Tryz.zeroValue54
 t154:=Tryz.underlying56
 a154:=Tryz.isAgg56
 z154:=Tryz.sizeOf56
 v154:=Tryz.zeroValue56}
open Go.RowKit Go.Lib in
theorem Tryz.strings_FieldsFunc_grows (g:Nat)(lb:Array Value)(eg:∀args w,(callFunc g args).run Tryz.prog w= .ok (.enter g args) w)(p:Nat→Bool)(s:ByteArray)(w:World)(hs:s.size≤4294967296)(hp:PredGrows Tryz.prog g lb p w):
 Calls Tryz.prog 10 #[.string s,.func (.func g) #[] lb] w fun e w'=>∃A,e= .returned (.slice (some ⟨A,0,none⟩) (Lib.goFieldsP p s).length (Lib.goFieldsP p s).length)∧w.heap.size≤A∧
  w'.ownsRow w.heap.size 9 1 (.slice (some ⟨A,0,none⟩) (Lib.goFieldsP p s).length (Lib.goFieldsP p s).length) (Lib.goFieldsP p s).length ((Lib.goFieldsP p s).map Value.string)∧Below w.heap.size w w':=Any.strings_FieldsFunc_grows Tryz.lays229 g lb eg p s w hs hp (by kernel_rfl) (by kernel_rfl)
open Go.RowKit in
theorem Tryz.strings_Trim_set (s cutset:ByteArray)(w:World)(hs:s.size≤9223372036854775807)(hcs:cutset.size<4294967281)(hascii:∀(j:Nat) b,cutset.data.toList[j]? =some b→b.toNat<128):
 Calls Tryz.prog 43 #[.string s,.string cutset] w fun e w'=>e= .returned (.string ⟨(Lib.trimS s.data.toList cutset.data.toList).toArray⟩)∧Below w.heap.size w w':=Any.strings_Trim_laid Tryz.lays160 (by kernel_rfl) s cutset w hs hcs hascii
end Go.Proofs
namespace Go.Proofs.YtpjmdbifacijoaaGreatDoor
open Go Go.RowKit V
set_option linter.unusedVariables false
set_option maxRecDepth 100000
namespace G
open V (str byC ownV ownG ownS ownOk)
instance:Cal Tryz.prog 18:=⟨Tryz.call18⟩
instance:Cal Tryz.prog 27:=⟨Tryz.call27⟩
instance:Cal Tryz.prog 42:=⟨Tryz.call42⟩
instance:Cal Tryz.prog 43:=⟨Tryz.call43⟩
instance:Cal Tryz.prog 44:=⟨Tryz.call44⟩
theorem blank_g (x:Nat)(hx:x≤1114111)(w:World):Calls Tryz.prog 11 [.int .i32 (x:Int)].toArray w fun e w'=>e= .returned (.bool (decide (x=32)))∧Below w.heap.size w w':=by
 refine V.calls [] Tryz.func11 rfl Tryz.ntmps11 (Nat.le_of_ble_eq_true rfl) (V.sat_nil _)<|Sq<|Rg<|Lv Av<|Nl<|Ps<|Sq<|Rg<|Lv Mv<|Lv Cm<|Lv Av<|Nl<|Ps<|Rt<|Rt1 ?_
 have e:((x:Int)==32)=decide (x=32):=by rw[Bool.eq_iff_iff];simp;omega
 intro w' hw;exact⟨by rw[e],hw.below⟩
theorem fields_g (l:List UInt8)(hl:l.length≤1000000)(w:World):Calls Tryz.prog 10 [str l,.func (.func 11) #[] #[]].toArray w fun e w'=>∃o:V.OwnO,ownOk 1 (wordsB [] l).length ((wordsB [] l).flatMap lineV) o∧e= .returned (ownV (wordsB [] l).length o)∧Hp ⟨w,[]⟩ [ownG 9 ((wordsB [] l).flatMap lineV) o] w':=by
 have h:=Tryz.strings_FieldsFunc_grows 11 #[] Tryz.call11 (fun r=>decide (r=32)) ⟨l.toArray⟩ w (by rw[str_size];omega) (fun W x hx hb=>by
  have h1:=blank_g x hx W
  simpa using h1)
 have hw:=fields_words (⟨l.toArray⟩:ByteArray)
 have hlen:(Go.Lib.goFieldsP (fun r=>decide (r=32)) ⟨l.toArray⟩).length=(wordsB [] l).length:=by rw[← hw,List.length_map]
 have hval:(Go.Lib.goFieldsP (fun r=>decide (r=32)) ⟨l.toArray⟩).map Value.string=(wordsB [] l).flatMap lineV:=by
  rw[← hw]
  induction Go.Lib.goFieldsP (fun r=>decide (r=32)) ⟨l.toArray⟩ with
  |nil=>rfl
  |cons x r ih=>rw[List.map_cons,ih,List.map_cons,List.flatMap_cons,lineV,str,← str_of x];rfl
 rw[hlen,hval] at h
 refine h.mono fun e w' ⟨A,h1,h2,h3,h4⟩=>?_
 obtain⟨o,hv,hok,hhp⟩:=V.hp_of_below h4 h3
 exact⟨o,hok,by rw[h1,hv],hhp⟩
def head1 (l:List UInt8)(c:UInt8):Bool:=decide (l.head?=some c)
theorem hpre0_g (l:List UInt8)(c:UInt8)(w:World):Calls Tryz.prog 18 [str l,str [c]].toArray w fun e w'=>e= .returned (.bool (head1 l c))∧Below w.heap.size w w':=by
 refine V.calls [] Tryz.func18 rfl Tryz.ntmps18 (Nat.le_of_ble_eq_true rfl) (V.sat_nil _)<|Sq<|Rg<|Lv Av<|Nl<|Ps<|Sq<|Rg<|Lv Mv<|Lv LnS<|Lv Mv<|Lv LnS<|LW.re 8 (.int .i64 1) rfl (by rfl)<|Lv Cm<|Lv Mv ?_
 refine LW.split (d:=10) rfl (fun h10=>?_) (fun h10=>?_)
 ·replace h10:=bT h10
  obtain⟨x,r,rfl⟩:∃x r,l=x::r:=by
   cases l with
   |nil=>simp at h10
   |cons x r=>exact⟨x,r,rfl⟩
  refine Lv Mv<|Lv Mv<|Lv LnS<|LW.re 13 (.int .i64 1) rfl (by rfl)<|Lv (V.Val.sliceStr (l:=x::r) 0 1 rfl Tryz.underlying9 rfl ⟨_,rfl⟩ (by omega) (by simp))<|Lv Mv<|Lv ES<|Lv Pt<|Lv Av<|Nl<|Ps<|Rt<|Rt1 ?_
  intro w' hw;exact⟨by congr 2;simp[head1,str],hw.below⟩
 ·replace h10:=bF h10
  obtain rfl:l=[]:=by cases l with
   |nil=>rfl
   |cons x r=>simp at h10;omega
  refine Lp<|Lp<|Lp<|Lp<|Lp<|Lp<|Lv Pf<|Lv Av<|Nl<|Ps<|Rt<|Rt1 ?_
  intro w' hw;exact⟨rfl,hw.below⟩
theorem hpre_g (l:List UInt8)(c:UInt8)(w:World):Calls Tryz.prog 12 [str l,str [c]].toArray w fun e w'=>e= .returned (.bool (head1 l c))∧Below w.heap.size w w':=by
 refine V.calls [] Tryz.func12 rfl Tryz.ntmps12 (Nat.le_of_ble_eq_true rfl) (V.sat_nil _)<|Sq<|Rg<|Lv Av<|Nl<|Ps<|Sq<|Rg<|Lv Mv<|Lv Mv<|Le (CV fun w hw=>hpre0_g l c w) fun _ _=>Lv Av<|Nl<|Ps<|Rt<|Rt1 ?_
 intro w' hw;exact⟨rfl,hw.below⟩
def d10:List UInt8:=[48,49,50,51,52,53,54,55,56,57]
theorem trim_g (x:List UInt8)(hx:x.length≤1000)(hT:Go.Lib.trimS x d10=[])(w:World):Calls Tryz.prog 43 [str x,str d10].toArray w fun e w'=>e= .returned (str [])∧Below w.heap.size w w':=by
 have h:=Tryz.strings_Trim_set ⟨x.toArray⟩ ⟨d10.toArray⟩ w (by rw[str_size];omega) (by rw[str_size];decide) (Go.Proofs.ascii_of_all (by decide))
 simp only[] at h
 rw[hT] at h
 exact h
theorem atoi_g (x:List UInt8)(n:Nat)(hx:x.length≤18)(hA:Go.Lib.atoi x=some (n:Int))(w:World):Calls Tryz.prog 44 [str x].toArray w fun e w'=>e= .returned (.tuple #[.int .i64 (n:Nat),.nilIface])∧Below w.heap.size w w':=by
 refine(Tryz.strconv_Atoi ⟨x.toArray⟩ n (by rw[str_size];omega) (by simpa using hA) w).mono fun e w' ⟨h1,t,h2⟩=>⟨h1,?_⟩
 subst h2
 exact⟨rfl,rfl,rfl,by rw[Go.Lib.bytesWorld_size];omega,fun k hk=>Go.Lib.bytesWorld_at_old w _ _ k hk⟩
theorem number_g (tb:Nat)(W:V.Seg)(gp:Option Addr)(n c:Nat)(x:List UInt8)(r:List (List UInt8))(hW:WsAt W gp (x::r))(hn:n=r.length+1)(hc:n≤c)(m:Nat)(hT:Go.Lib.trimS x d10=[])(hA:Go.Lib.atoi x=some (m:Int))(hx:1≤x.length∧x.length≤9)(w:World)(hs:Sat [[(tb,.cells (tkrC gp n c false).toArray 59 (0,0))],W] w):Calls Tryz.prog 27 [.pointer (some ⟨tb,0,none⟩)].toArray w fun e w'=>∃_u:Unit,True∧e= .returned (.int .i64 (m:Nat))∧Hp ⟨w,V.ids ([[(tb,.cells (tkrC gp n c false).toArray 59 (0,0))],W])⟩ ([[(tb,.cells (tkrC (if c=1 then gp else gp.map (·.add (1*1))) r.length (c-1) false).toArray 59 (0,0))],W]) w':=by
 refine V.calls [[(tb,.cells (tkrC gp n c false).toArray 59 (0,0))],W] Tryz.func27 rfl Tryz.ntmps27 (Nat.le_of_ble_eq_true rfl) hs<|Sq<|Rg<|Lv Av<|Nl<|Ps<|Sq<|Rg<|Lv Mv<|Le (CM ([[(tb,.cells (tkrC gp n c false).toArray 59 (0,0))],W]) fun w hw hs0=>word_g tb W gp n c false x r hW hn hc w hs0) fun _ _=>Lv Av<|Nl<|Ps<|Sq<|Sq<|Rg<|Lv Mv<|Lv LnS<|Lv Cm<|LW.re 10 (.bool false) rfl (by congr 1;simp;omega)<|Lv Mv<|Lv Mv<|Lv LnS<|Lv Cm<|LW.re 14 (.bool false) rfl (by congr 1;simp;omega)<|Lv Pf<|Lv Mv<|Lv Mv<|Le (CV fun w hw=>trim_g x (by omega) hT w) fun _ _=>Lv NS<|LW.re 19 (.bool false) rfl (by rfl)<|Lv Pf<|Nl<|Ps<|Cf<|Sk<|Ps<|Sq<|Rg<|Lv Mv<|Le (CV fun w hw=>atoi_g x m (by omega) hA w) fun _ _=>Lv Mv<|Lv Ex<|Lv Ex<|Lv Av<|Lv Av<|Nl<|Ps<|Sq<|Rg<|Lv Mv<|Lv Av<|Nl<|Ps<|Rt<|Rt1 ?_
 intro w' hw;exact⟨(),trivial,rfl,hw.pick (by repeat(first|exact .nil|apply Pick.cons|exact .here|apply Ext.there))⟩
theorem count_g (tb:Nat)(W:V.Seg)(gp:Option Addr)(n c:Nat)(x:List UInt8)(r:List (List UInt8))(hW:WsAt W gp (x::r))(hn:n=r.length+1)(hc:n≤c)(m:Nat)(hT:Go.Lib.trimS x d10=[])(hA:Go.Lib.atoi x=some (m:Int))(hx:1≤x.length∧x.length≤9)(hm:m≤10000)(w:World)(hs:Sat [[(tb,.cells (tkrC gp n c false).toArray 59 (0,0))],W] w):Calls Tryz.prog 48 [.pointer (some ⟨tb,0,none⟩)].toArray w fun e w'=>∃_u:Unit,True∧e= .returned (.int .i64 (m:Nat))∧Hp ⟨w,V.ids ([[(tb,.cells (tkrC gp n c false).toArray 59 (0,0))],W])⟩ ([[(tb,.cells (tkrC (if c=1 then gp else gp.map (·.add (1*1))) r.length (c-1) false).toArray 59 (0,0))],W]) w':=by
 refine V.calls [[(tb,.cells (tkrC gp n c false).toArray 59 (0,0))],W] Tryz.func48 rfl Tryz.ntmps48 (Nat.le_of_ble_eq_true rfl) hs<|Sq<|Rg<|Lv Av<|Nl<|Ps<|Sq<|Rg<|Lv Mv<|Le (CM ([[(tb,.cells (tkrC gp n c false).toArray 59 (0,0))],W]) fun w hw hs0=>number_g tb W gp n c x r hW hn hc m hT hA hx w hs0) fun _ _=>Lv Av<|Nl<|Ps<|Sq<|Rg<|Lv Mv<|Lv Mv<|Lv Nz<|Lv (Fa 1 4)<|Lv (Ld (v:= .bool false))<|Lv Mv<|Lv Mv<|Lv Cm<|LW.re 13 (.bool false) rfl (by congr 1;simp;omega)<|Lv Pf<|LW.re 14 (.bool false) rfl (by rfl)<|Lv Nz<|Lv (Fa 1 4)<|LeN StS fun _ _=>Nl<|Ps<|Sq<|Rg<|Lv Mv<|Lv Av<|Nl<|Ps<|Rt<|Rt1 ?_
 intro w' hw;exact⟨(),trivial,rfl,hw.pick (by repeat(first|exact .nil|apply Pick.cons|exact .here|apply Ext.there))⟩
theorem text_g (tb:Nat)(W:V.Seg)(gp:Option Addr)(n c:Nat)(x:List UInt8)(r:List (List UInt8))(hW:WsAt W gp (x::r))(hn:n=r.length+1)(hc:n≤c)(hx:x≠[45])(w:World)(hs:Sat [[(tb,.cells (tkrC gp n c false).toArray 59 (0,0))],W] w):Calls Tryz.prog 102 [.pointer (some ⟨tb,0,none⟩)].toArray w fun e w'=>∃_u:Unit,True∧e= .returned (str x)∧Hp ⟨w,V.ids ([[(tb,.cells (tkrC gp n c false).toArray 59 (0,0))],W])⟩ ([[(tb,.cells (tkrC (if c=1 then gp else gp.map (·.add (1*1))) r.length (c-1) false).toArray 59 (0,0))],W]) w':=by
 refine V.calls [[(tb,.cells (tkrC gp n c false).toArray 59 (0,0))],W] Tryz.func102 rfl Tryz.ntmps102 (Nat.le_of_ble_eq_true rfl) hs<|Sq<|Rg<|Lv Av<|Nl<|Ps<|Sq<|Sq<|Rg<|Lv Mv<|Le (CM ([[(tb,.cells (tkrC gp n c false).toArray 59 (0,0))],W]) fun w hw hs0=>word_g tb W gp n c false x r hW hn hc w hs0) fun _ _=>Lv Av<|Nl<|Ps<|Sq<|Rg<|Lv Mv<|Lv NS<|LW.re 7 (.bool true) rfl (by simp[str,hx])<|Nl<|Ps<|Ct<|Sq<|Rg<|Lv Mv<|Lv Av<|Nl<|Ps<|Rt<|Tr<|Rt1 ?_
 intro w' hw;exact⟨(),trivial,rfl,hw.pick (by repeat(first|exact .nil|apply Pick.cons|exact .here|apply Ext.there))⟩
theorem line_map:∀xs:List (List UInt8),xs.flatMap lineV=xs.map str
 |[]=>rfl
 |a::b=>by rw[List.flatMap_cons,line_map b];rfl
theorem join_g (xs:List (List UInt8))(o:V.OwnO)(sep:List UInt8)(hok:ownOk 1 xs.length (xs.flatMap lineV) o)(hN:xs.length≤100000)(hlen:(Go.Lib.join xs sep).length≤140737488355328)(w:World)(hs:Sat [ownG 9 (xs.flatMap lineV) o] w):Calls Tryz.prog 61 [ownV xs.length o,str sep].toArray w fun e w'=>e= .returned (str (Go.Lib.join xs sep))∧Below w.heap.size w w':=by
 rcases o with _|⟨g,rest,cap⟩
 ·have h0:xs.length=0:=hok.2
  have:xs=[]:=List.length_eq_zero_iff.1 h0
  subst this
  exact(Tryz.strings_Join_none none 0 ⟨sep.toArray⟩ w).mono fun e w' ⟨h1,h2⟩=>⟨by rw[h1];rfl,h2▸Below.refl _ _⟩
 ·have hown:=hs.own (g,.cells (xs.flatMap lineV++rest).toArray 9 (0,0)) (by simp[ownG,ownS])
  simp only at hown
  have hfl:(xs.flatMap lineV).length=xs.length:=by rw[V.flatMap_len (k:=1) (fun _=>rfl)];omega
  have hcap:(xs.flatMap lineV).length+rest.length=cap*1:=hok.2
  rw[hfl] at hcap
  have e1:(xs.map fun x=>(⟨x.toArray⟩:ByteArray)).map (·.data.toList)=xs:=by simp[Function.comp_def]
  have h:=Tryz.strings_Join g 0 cap (xs.map fun x=>(⟨x.toArray⟩:ByteArray)) ⟨sep.toArray⟩ w (fun j x hj=>by
   rw[Nat.zero_add]
   have hj':=(List.getElem?_eq_some_iff.1 hj).1
   simp only[List.length_map] at hj'
   refine V.cell_of_block hown ?_
   rw[List.getElem?_append_left (by rw[hfl];exact hj')]
   simp only[List.getElem?_map,Option.map_eq_some_iff] at hj
   obtain⟨y,hy,rfl⟩:=hj
   rw[line_map]
   simp[hy,str]) (V.lt_of_some hown) (by simp;omega) (by simp;omega) (by rw[e1];exact hlen)
  rw[e1,List.length_map] at h
  exact h
end G
end Go.Proofs.YtpjmdbifacijoaaGreatDoor
namespace Go.Proofs.YtpjmdbifacijoaaGreatDoor
open Go Go.RowKit V
set_option linter.unusedVariables false
set_option maxRecDepth 100000
set_option maxHeartbeats 400000
namespace G
open V (str byC ownV ownG ownS ownOk)
def stepP (a:AS)(v:Dev)(t:Int)(f:Frm):AS×Dev×Frm×Int:=((pointA a v t f).1,(pointA a v t f).2.1,(pointA a v t f).2.2,0)
theorem stepped_p (wb:Nat)(W:Wc)(hL:W.L.length=4)(x:ArR)(hWa:W.a=some ⟨x.a,0,none⟩)(hst: -1000000000≤W.stores∧W.stores≤1000000000)(t:Int)(f:Frm)(o:FrO)(s:ArS)(xd:DvR)(v:Dev)(th n m n0:Nat)(a:AS)(hG:ArG th n x s a)(hF:FrOkW f o)(hF2:¬f.c.k=6→FrOk f o)(hH:StH th n m n0 a f)(hkk:f.c.k=2)(w:World)(hs:Sat ([(wb,.cells (wcC (W)).toArray 108 (0,0))]::(frS f o++(arS x s xd.db++vS xd v))) w):Calls Tryz.prog 167 [.pointer (some ⟨wb,0,none⟩),.int .i64 t,.agg (frC f o).toArray].toArray w fun e w'=>∃z:ArS×FrO,(ArG th n x z.1 (stepP a v t f).1∧FrOkW (stepP a v t f).2.2.1 z.2∧(¬f.c.k=6→FrOk (stepP a v t f).2.2.1 z.2))∧e= .returned (.agg (frC (stepP a v t f).2.2.1 z.2).toArray)∧Hp ⟨w,V.ids (([(wb,.cells (wcC (W)).toArray 108 (0,0))]::(frS f o++(arS x s xd.db++vS xd v))))⟩ (([(wb,.cells (wcC (actW W (stepP a v t f).2.2.2)).toArray 108 (0,0))]::(frS (stepP a v t f).2.2.1 z.2++(arS x z.1 xd.db++vS xd (stepP a v t f).2.1)))) w':=by
 refine V.calls ([(wb,.cells (wcC (W)).toArray 108 (0,0))]::(frS f o++(arS x s xd.db++vS xd v))) Tryz.func167 rfl Tryz.ntmps167 (Nat.le_of_ble_eq_true rfl) hs<|Sq<|Rg<|Le XA fun b5 _=>Le AA fun b6 _=>Nl<|Ps<|Sq<|Sq<|Rg<|Lv (Fa 0 91)<|Lv (Fa 0 3)<|Lv (Ld (v:= .int .i64 f.c.k))<|Nl<|Ps<|Bk<|Sq<|Sq<|Rg<|Lv Cm<|LW.re 13 (.bool false) rfl (by rw[hkk];rfl)<|Lv Av<|Nl<|Ps<|Cf<|Sq<|Rg<|Lv Cm<|LW.re 14 (.bool true) rfl (by rw[hkk];rfl)<|Lv Av<|Nl<|Ps<|Ct<|Sk<|Ps<|Ct<|Sq<|Dr ([[(wb,.cells (wcC (W)).toArray 108 (0,0))],[(b5,.cells (frC f o).toArray 101 (0,0))]])<|Rv 0 rfl Mv<|Rv 1 rfl Nz<|Rv 2 rfl (Fa 4 81)<|Rv 3 rfl (Ld (v:= .pointer W.a))<|RW.re 19 (.pointer (some ⟨x.a,0,none⟩)) rfl (by rw[hWa])<|Rv 4 rfl Mv<|Rv 5 rfl (Lw (l:=frC f o))<|Re 6 rfl (CM ((frS f o++(arS x s xd.db++vS xd v))) fun w hw hs0=>point_g x t f o s xd v th n m n0 a hG (hF2 (by omega)) hH w hs0) fun z hz=>ReN 7 rfl (StW (cs:=frC (pointA a v t f).2.2 z.2) (h1:=by simp only[frC,klC,anC,lkC,List.cons_append,List.nil_append,List.all_append,List.all_cons,List.all_nil,V.ownV_one,oneS,oneI,oneB,Bool.and_true])) fun _ _=>Rd<|Ps<|Rt<|Br<|Tr<|PQ.retC (l:=frC (pointA a v t f).2.2 z.2) rfl rfl (by repeat(first|exact .here|exact .inner .here|exact .inner (.inner .here)|refine .there ?_)) Tryz.isAgg101 (by exact Tryz.sizeOf101) ?_
 have e2:actW W 0=W:=if_neg (by decide)
 intro w' hw;refine⟨z,⟨hz.1,hz.2.w,fun _=>hz.2⟩,rfl,?_⟩
 show Hp _ ([(wb,.cells (wcC (actW W (stepP a v t f).2.2.2)).toArray 108 (0,0))]::_) w'
 rw[show(stepP a v t f).2.2.2=0 from rfl,e2]
 exact hw.pick (ss:=([(wb,.cells (wcC (W)).toArray 108 (0,0))]::(frS (pointA a v t f).2.2 z.2++(arS x z.1 xd.db++vS xd (pointA a v t f).2.1)))) (by repeat(first|exact .nil|apply Pick.cons|exact .here|apply Ext.there))
end G
end Go.Proofs.YtpjmdbifacijoaaGreatDoor
