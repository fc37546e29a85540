import Derived.Test.YteejleakfbnpcaaGreatQb2
/- What the law leans on, part 7. -/
namespace Go.Proofs.YteejleakfbnpcaaGreat
open Go Go.RowKit V
set_option linter.unusedVariables false
set_option maxRecDepth 100000
set_option maxHeartbeats 400000
namespace G
section
attribute [local irreducible] V.CW V.LW V.QW V.RW V.PQ V.Val V.Eff V.Qcall
open V (str byC ownV ownG ownS ownOk)
instance:Und Tryz.prog 36 (dOf Tryz.underlying36):=⟨Tryz.underlying36⟩
instance:Cal Tryz.prog 4:=⟨Tryz.call4⟩
instance:Cal Tryz.prog 5:=⟨Tryz.call5⟩
instance:Cal Tryz.prog 6:=⟨Tryz.call6⟩
instance:Cal Tryz.prog 7:=⟨Tryz.call7⟩
instance:Cal Tryz.prog 8:=⟨Tryz.call8⟩
instance:Cal Tryz.prog 10:=⟨Tryz.call10⟩
instance:Cal Tryz.prog 11:=⟨Tryz.call11⟩
instance:Cal Tryz.prog 13:=⟨Tryz.call13⟩
instance:Cal Tryz.prog 14:=⟨Tryz.call14⟩
instance:Cal Tryz.prog 15:=⟨Tryz.call15⟩
instance:Cal Tryz.prog 16:=⟨Tryz.call16⟩
instance:Cal Tryz.prog 17:=⟨Tryz.call17⟩
theorem num_g (y:Int):Rz Tryz.prog 11 [.int .i64 y] (.int .i64 y):=by
 intro w
 refine Cb_ Tryz.func11 rfl Tryz.ntmps11<|pA_ 13 ?_
 exact fb_
theorem rnewP_no (db:Nat)(th:Int)(h:th<1∨4<th):Rz Tryz.prog 9 [.pointer (some ⟨db,0,none⟩),.int .i64 th] (.tuple #[.pointer none,.int .i64 2]):=by
 intro w
 refine Cb_ Tryz.func9 rfl Tryz.ntmps9<|pA_ 22 ?_
 refine LW.split (d:=10) rfl (fun h10=>?_) (fun h10=>?_)
 ·replace h10:=bT h10
  refine pA_ 15 ?_
  exact fb_
 ·replace h10:=bF h10
  refine pA_ 5 ?_
  refine Cd_ rfl (fun h13=>?_) fun h13=>?_
  ·refine pA_ 9 ?_
   exact fb_
  ·refine pA_ 6 ?_
   refine Lv (Bd [_,_,_,_,_,_,_,_,_,_,_,_])<|Le XA fun b17 _=>pA_ 6 ?_
   exact absurd h om_
theorem rnewP_nil (th:Int):Rz Tryz.prog 9 [.pointer none,.int .i64 th] (.tuple #[.pointer none,.int .i64 1]):=by
 intro w
 refine Cb_ Tryz.func9 rfl Tryz.ntmps9<|pA_ 10 ?_
 refine Lv (Val.eqP true rfl rfl Tryz.underlying28 (.inl ⟨rfl,rfl⟩))<|pA_ 12 ?_
 exact fb_
theorem stepPB_g (rb:Nat)(x:DvR)(th n:Nat)(b:Bst)(hB:Bi th n b)(h1:1≤th)(h4:th≤4):Mo Tryz.prog 12 [.pointer (some ⟨rb,0,none⟩)] [b1S rb x b.v b.r b.ar] (fun q:Rvl×Option (ArR×ArS)=>corOf q.1=(stp b.v (corOf b.r)).2.1∧RvX th n q.1 q.2) (fun _=> .int .i64 (stp b.v (corOf b.r)).2.2) (fun q=>[b1S rb x (stp b.v (corOf b.r)).1 q.1 q.2]):=by
 intro w hs
 obtain rfl:=hB.len
 exact stepP_g rb x b.v b.r b.ar th h1 h4 hB.inv hB.x w hs
theorem stepWB_g (wb:Nat)(x2:DvR)(th n:Nat)(b:Bst)(hB:Bi th n b)(hn:10≤n∧n≤258)(h1:1≤th)(h4:th≤4):Mo Tryz.prog 13 [.pointer (some ⟨wb,0,none⟩)] [b2B wb x2 th b.c b.lo b.q,b2S x2 b.v th b.c b.lo b.q] (fun z:V.OwnO×Option (RAw×ROv)=>RwX n (rstp b.v b.c).2.1 z.1 z.2) (fun _=> .int .i64 (stp b.v (corOf b.r)).2.2) (fun z=>[b2B wb x2 th (rstp b.v b.c).2.1 z.1 z.2,b2S x2 (stp b.v (corOf b.r)).1 th (rstp b.v b.c).2.1 z.1 z.2]):=by
 intro w hs
 obtain rfl:=hB.len
 obtain⟨D0,_,hC,hR⟩:=hB.cl
 exact stepW_g wb x2 b.v th b.c b.lo b.q (corOf b.r) h1 h4 hB.inv ⟨D0,hC,hR⟩ hB.rel hn hB.w w hs
theorem start_perm (rb wb:Nat)(x x2:DvR)(v:Dev)(th:Nat):(rv3S wb x2.db (th:Nat) rco0 none none++(rvS rb x.db (rv0 (th:Nat))++(rvS3 x2 v++vS x v)):V.Sg).flatten.Perm ([b1S rb x v (rv0 (th:Nat)) none,b2B wb x2 th rco0 none none,b2S x2 v th rco0 none none]:V.Sg).flatten:=by
 rw[List.flatten_cons (l:=b1S rb x v (rv0 (th:Nat)) none),b1_eq,b2_eq]
 show _root_.List.Perm _ ((rvS rb x.db (rv0 (th:Nat))++vS x v:V.Sg).flatten++(rv3S wb x2.db (th:Nat) rco0 none none++rvS3 x2 v:V.Sg).flatten)
 rw[List.flatten_append,List.flatten_append,List.flatten_append,List.flatten_append,List.flatten_append]
 generalize (rv3S wb x2.db (th:Nat) rco0 none none).flatten=A
 generalize (rvS rb x.db (rv0 (th:Nat))).flatten=B
 generalize (rvS3 x2 v).flatten=C
 generalize (vS x v).flatten=D
 refine List.perm_append_comm.trans ?_
 simp only[List.append_assoc]
 refine List.Perm.append_left B<|List.perm_append_comm.trans ?_
 simp only[List.append_assoc]
 exact .refl _
theorem cutV_len (v:Dev)(ks:List Int):(v.cut ks).D.length=v.D.length:=cutD_len v.D ks
theorem scriptN_c (sl th:Int)(hth:th<1∨4<th)(clk:Int)(hck:0≤clk∧clk<18446744073709551616)(l:List Laid)(p:Option Addr)(c:Nat)(cs:List Int)(pc:Option Addr)(cc:Nat)(ks:List Int)(pk:Option Addr)(ck:Nat)(w:World)(hp:LdR w p l)(hcs:V.slAt w pc 1 inI cs)(hks:V.slAt w pk 1 inI ks):Calls Tryz.prog 3 [.int .i64 sl,.int .i64 th,.int .u64 clk,.slice p l.length c,.slice pc cs.length cc,.slice pk ks.length ck].toArray w fun e w'=>e= .returned (.bool true)∧Below w.heap.size w w':=by
 refine Cb_ Tryz.func3 rfl Tryz.ntmps3<|pA_ 9 ?_
 refine Le (CV fun w hw=>large_g l p c w (ldr_up hw hp)) fun _ _=>Lv Mv ?_
 refine LW.split (d:=27) rfl (fun h27=>?_) (fun h27=>?_)
 ·replace h27:=bT h27
  refine pA_ 14 ?_
  refine Le (Cz_ awake_g) fun _ _=>pA_ 6 ?_
  exact fb_
 ·replace h27:=bF h27
  refine pA_ 5 ?_
  refine LW.split (d:=32) rfl (fun h32=>?_) (fun h32=>?_)
  ·replace h32:=bT h32
   refine pA_ 9 ?_
   refine Le (Cz_ awake_g) fun _ _=>pA_ 6 ?_
   exact fb_
  ·replace h32:=bF h32
   refine pA_ 6 ?_
   refine Cd_ rfl (fun h36=>?_) fun h36=>?_
   ·refine Sq<|Rg<|Le (Cz_ awake_g) fun _ _=>pA_ 6 ?_
    exact fb_
   ·refine pA_ 5 ?_
    refine LW.e rfl rfl (Eff.callR rfl Tryz.call6 (fun w hw=>by
     obtain⟨v1,hv1,h1⟩:=low_g sl 4 om_ w
     exact h1.mono fun e w' ⟨h2,h3⟩=>⟨v1,hv1,h2,h3⟩)) ?_
    intro lw hlw
    have hlw:(lw:Int)<4:=hlw
    obtain⟨n,hn⟩:∃n:Nat,n=10+8*lw:=⟨_,rfl⟩
    have hn1:10≤n∧n≤258:=by omega
    refine Lv Ar<|Lv Ar<|LW.re 41 (.int .i64 (n:Nat)) rfl (by congr 1;omega)<|pA_ 8 ?_
    refine Le (CM [] fun w hw hs0=>device_g n hn1 clk l p c h27 w (ldr_up hw hp)) fun x _=>pA_ 3 ?_
    refine Le (CM [] fun w hw hs0=>other_g n hn1 clk hck l p c h27 w (ldr_up hw hp)) fun x2 _=>?_
    have hln:=devF_len n clk l
    generalize devF n clk l=vD at hln⊢
    refine pA_ 18 ?_
    refine Le (Cz_ (rnewP_no x.db th hth)) fun _ _=>pA_ 11 ?_
    refine Le (Cz_ (rnew22_no x2.db th hth)) fun _ _=>pA_ 11 ?_
    refine Le (Cz_ (num_g 2)) fun _ _=>Lv Mv<|Lv Cm<|LW.re 67 (.bool false) rfl (by simp)<|Lv Mv<|Lv Mv<|Lv (Val.eqP true rfl rfl Tryz.underlying32 (.inl ⟨rfl,rfl⟩))<|Lv Mv<|Lv (Val.eqP true rfl rfl Tryz.underlying36 (.inl ⟨rfl,rfl⟩))<|Lv (Val.neB rfl rfl Tryz.underlying4)<|LW.re 73 (.bool false) rfl (by simp)<|pA_ 10 ?_
    refine Lv (Val.eqP true rfl rfl Tryz.underlying36 (.inl ⟨rfl,rfl⟩))<|pA_ 6 ?_
    refine Le (Cz_ (rnewP_nil th)) fun _ _=>pA_ 11 ?_
    refine LW.re 83 (.bool true) rfl (by rfl)<|Lv Mv<|Le (Cz_ awake_g) fun _ _=>pA_ 7 ?_
    exact fb_
theorem scriptY_c (sl:Int)(th:Nat)(h1:1≤th)(h4:th≤4)(clk:Int)(hck:0≤clk∧clk<18446744073709551616)(l:List Laid)(p:Option Addr)(c:Nat)(cs:List Int)(pc:Option Addr)(cc:Nat)(ks:List Int)(pk:Option Addr)(ck:Nat)(w:World)(hp:LdR w p l)(hcs:V.slAt w pc 1 inI cs)(hks:V.slAt w pk 1 inI ks):Calls Tryz.prog 3 [.int .i64 sl,.int .i64 (th:Nat),.int .u64 clk,.slice p l.length c,.slice pc cs.length cc,.slice pk ks.length ck].toArray w fun e w'=>e= .returned (.bool true)∧Below w.heap.size w w':=by
 refine Cb_ Tryz.func3 rfl Tryz.ntmps3<|pA_ 9 ?_
 refine Le (CV fun w hw=>large_g l p c w (ldr_up hw hp)) fun _ _=>Lv Mv ?_
 refine LW.split (d:=27) rfl (fun h27=>?_) (fun h27=>?_)
 ·replace h27:=bT h27
  refine pA_ 14 ?_
  refine Le (Cz_ awake_g) fun _ _=>pA_ 6 ?_
  exact fb_
 ·replace h27:=bF h27
  refine pA_ 5 ?_
  refine LW.split (d:=32) rfl (fun h32=>?_) (fun h32=>?_)
  ·replace h32:=bT h32
   refine pA_ 9 ?_
   refine Le (Cz_ awake_g) fun _ _=>pA_ 6 ?_
   exact fb_
  ·replace h32:=bF h32
   refine pA_ 6 ?_
   refine Cd_ rfl (fun h36=>?_) fun h36=>?_
   ·refine Sq<|Rg<|Le (Cz_ awake_g) fun _ _=>pA_ 6 ?_
    exact fb_
   ·refine pA_ 5 ?_
    refine LW.e rfl rfl (Eff.callR rfl Tryz.call6 (fun w hw=>by
     obtain⟨v1,hv1,h1⟩:=low_g sl 4 om_ w
     exact h1.mono fun e w' ⟨h2,h3⟩=>⟨v1,hv1,h2,h3⟩)) ?_
    intro lw hlw
    have hlw:(lw:Int)<4:=hlw
    obtain⟨n,hn⟩:∃n:Nat,n=10+8*lw:=⟨_,rfl⟩
    have hn1:10≤n∧n≤258:=by omega
    refine Lv Ar<|Lv Ar<|LW.re 41 (.int .i64 (n:Nat)) rfl (by congr 1;omega)<|pA_ 8 ?_
    refine Le (CM [] fun w hw hs0=>device_g n hn1 clk l p c h27 w (ldr_up hw hp)) fun x _=>pA_ 3 ?_
    refine Le (CM [] fun w hw hs0=>other_g n hn1 clk hck l p c h27 w (ldr_up hw hp)) fun x2 _=>?_
    have hln:=devF_len n clk l
    generalize devF n clk l=vD at hln⊢
    refine pA_ 18 ?_
    refine Le (Cn_ (rnew2_g x.db (th:Nat) ⟨by omega,by omega⟩)) fun rb _=>pA_ 11 ?_
    refine Le (Cn_ (rnew22_g x2.db (th:Nat) ⟨by omega,by omega⟩)) fun wb _=>pA_ 11 ?_
    refine Le (Cz_ (num_g 0)) fun _ _=>Lv Mv<|Lv Cm<|LW.re 67 (.bool false) rfl (by simp)<|pA_ 5 ?_
    refine Lv (Val.neB rfl rfl Tryz.underlying4)<|LW.re 73 (.bool false) rfl (by simp)<|pA_ 23 ?_
    refine V.CW.perm (sg':=[b1S rb x vD (rv0 (th:Nat)) none,b2B wb x2 th rco0 none none,b2S x2 vD th rco0 none none]) ?_ (start_perm rb wb x x2 vD th)
    refine loopA (γ:=Nat×(Nat×Nat)×Bst) (fun a=>[(1,.int .i64 (th:Nat)),(4,.slice pc cs.length cc),(5,.slice pk ks.length ck),(14,.pointer (some ⟨x.db,0,none⟩)),(15,.pointer (some ⟨x2.db,0,none⟩)),(16,.pointer (some ⟨a.2.1.1,0,none⟩)),(18,.pointer (some ⟨a.2.1.2,0,none⟩)),(22,.int .i64 (a.1:Nat))]) (fun a=>[b1S a.2.1.1 x a.2.2.v a.2.2.r a.2.2.ar,b2B a.2.1.2 x2 th a.2.2.c a.2.2.lo a.2.2.q,b2S x2 a.2.2.v th a.2.2.c a.2.2.lo a.2.2.q]) (fun a=>a.1≤cs.length+1∧Bi th n a.2.2) (fun a=>cs.length+1-a.1) ((0,(rb,wb),bst0 vD th)) ⟨Nat.zero_le _,Bi.new hln om_⟩ fun a=>?_
    rintro⟨ha1,hB⟩
    refine pA_ 9 ?_
    refine Cd_ rfl (fun h90=>?_) fun h90=>?_
    ·refine pA_ 10 ?_
     refine CW.join (fun N:Nat=>N≤200) (fun N=>[(1,.int .i64 (th:Nat)),(4,.slice pc cs.length cc),(5,.slice pk ks.length ck),(14,.pointer (some ⟨x.db,0,none⟩)),(15,.pointer (some ⟨x2.db,0,none⟩)),(16,.pointer (some ⟨a.2.1.1,0,none⟩)),(18,.pointer (some ⟨a.2.1.2,0,none⟩)),(22,.int .i64 (a.1:Nat)),(23,.int .i64 (N:Nat))]) (fun _=>[b1S a.2.1.1 x a.2.2.v a.2.2.r a.2.2.ar,b2B a.2.1.2 x2 th a.2.2.c a.2.2.lo a.2.2.q,b2S x2 a.2.2.v th a.2.2.c a.2.2.lo a.2.2.q]) ?_ ?_
     ·refine pA_ 8 ?_
      refine Cd_ rfl (fun h96=>?_) fun h96=>?_
      ·have hik:a.1<cs.length:=by omega
       obtain⟨bc,oc,cv,hpc,hbc,hcv,hrc⟩:=V.slAt_at hcs rfl (k:=a.1) hik
       subst hpc
       refine pA_ 4 ?_
       refine Lv (Val.loadO rfl Tryz.isAgg3 hbc (by simp[ids]) (hrc a.1 cv hcv 0 _ rfl))<|Le (Cz_ (lowF_g cv 90 ⟨by omega,by omega⟩)) fun _ _=>Lv Av<|Nl ?_
       exact joinC (lowF cv 90) (by have:=low_lt (a:=cv) (m:=90) om_;omega)
      ·refine Sk ?_
       exact joinC (200) (Nat.le_refl _)
     ·intro N hN
      refine Ps<|Sq ?_
      refine CW.join (fun u:Bst=>Bi th n u) (fun _=>[(1,.int .i64 (th:Nat)),(4,.slice pc cs.length cc),(5,.slice pk ks.length ck),(14,.pointer (some ⟨x.db,0,none⟩)),(15,.pointer (some ⟨x2.db,0,none⟩)),(16,.pointer (some ⟨a.2.1.1,0,none⟩)),(18,.pointer (some ⟨a.2.1.2,0,none⟩)),(22,.int .i64 (a.1:Nat))]) (fun u=>[b1S a.2.1.1 x u.v u.r u.ar,b2B a.2.1.2 x2 th u.c u.lo u.q,b2S x2 u.v th u.c u.lo u.q]) ?_ ?_
      ·refine pA_ 6 ?_
       refine loopA (γ:=Nat×Bst) (fun e=>[(1,.int .i64 (th:Nat)),(4,.slice pc cs.length cc),(5,.slice pk ks.length ck),(14,.pointer (some ⟨x.db,0,none⟩)),(15,.pointer (some ⟨x2.db,0,none⟩)),(16,.pointer (some ⟨a.2.1.1,0,none⟩)),(18,.pointer (some ⟨a.2.1.2,0,none⟩)),(22,.int .i64 (a.1:Nat)),(23,.int .i64 (N:Nat)),(24,.int .i64 (e.1:Nat))]) (fun e=>[b1S a.2.1.1 x e.2.v e.2.r e.2.ar,b2B a.2.1.2 x2 th e.2.c e.2.lo e.2.q,b2S x2 e.2.v th e.2.c e.2.lo e.2.q]) (fun e=>e.1≤N∧Bi th n e.2) (fun e=>N-e.1) ((0,a.2.2)) ⟨Nat.zero_le _,hB⟩ fun e=>?_
       rintro⟨he1,hE⟩
       refine pA_ 7 ?_
       refine LW.split (d:=105) rfl (fun h105=>?_) (fun h105=>?_)
       ·replace h105:=bT h105
        refine pA_ 3 ?_
        refine Lv (Ld (v:= .int .i64 e.2.c.ph))<|pA_ 4 ?_
        refine Cd_ rfl (fun h111=>?_) fun h111=>?_
        ·refine pA_ 7 ?_
         refine Le (Cm_ (stepPB_g a.2.1.1 x th n e.2 hE h1 h4)) fun q hq=>Le (Cz_ (num_g _)) fun _ _=>Lv Mv<|Le (Cm_ (stepWB_g a.2.1.2 x2 th n e.2 hE hn1 h1 h4)) fun z hz=>Lv Cm<|LW.re 119 (.bool false) rfl (by simp)<|Lv Mv<|Lv Mv<|Lv (Val.rem rfl rfl om_)<|Lv Cm<|Lv Mv ?_
         refine LW.split (d:=124) rfl (fun h124=>?_) (fun h124=>?_)
         ·replace h124:=bT h124
          refine Lv Mv<|Lv Mv<|Le (Cr_ (alikeB_g a.2.1.1 a.2.1.2 x x2 th n (⟨(stp e.2.v (corOf e.2.r)).1,q.1,q.2,(rstp e.2.v e.2.c).2.1,z.1,z.2⟩:Bst) (hE.step hq hz) hn1 h4)) fun _ _=>pA_ 14 ?_
          exact roundA ((e.1+1,(⟨(stp e.2.v (corOf e.2.r)).1,q.1,q.2,(rstp e.2.v e.2.c).2.1,z.1,z.2⟩:Bst))) ⟨by simp only;omega,hE.step hq hz⟩ (by simp only;omega)
         ·replace h124:=bF h124
          refine pA_ 17 ?_
          exact roundA ((e.1+1,(⟨(stp e.2.v (corOf e.2.r)).1,q.1,q.2,(rstp e.2.v e.2.c).2.1,z.1,z.2⟩:Bst))) ⟨by simp only;omega,hE.step hq hz⟩ (by simp only;omega)
        ·refine pA_ 4 ?_
         exact joinC (e.2) (hE)
       ·replace h105:=bF h105
        refine pA_ 13 ?_
        exact joinC (e.2) (hE)
      ·intro u hU
       refine pA_ 6 ?_
       refine Le (Cr_ (alikeB_g a.2.1.1 a.2.1.2 x x2 th n u hU hn1 h4)) fun _ _=>pA_ 4 ?_
       refine Le (Cr_ (linesB_g a.2.1.1 a.2.1.2 x x2 th u (by rw[hU.len];omega))) fun _ _=>pA_ 15 ?_
       refine Cd_ rfl (fun h144=>?_) fun h144=>?_
       ·refine pA_ 4 ?_
        refine Le (CM ([b1S a.2.1.1 x u.v u.r u.ar]) fun w hw hs0=>cut1_g a.2.1.1 x u.v u.r u.ar ks pk ck (by rw[hU.len];omega) om_ w hs0 (hw.slAt hks (by simp[ids])) (fun h0 b q hb=>lo_notS hw (show Pick [b1S a.2.1.1 x u.v u.r u.ar] _ _ from pk_) (sl_in hks h0 hb))) fun oL _=>pA_ 6 ?_
        refine Le (CM ([b2B a.2.1.2 x2 th u.c u.lo u.q,b2S x2 u.v th u.c u.lo u.q]) fun w hw hs0=>cut2_g a.2.1.2 x2 u.v th u.c u.lo u.q ks pk ck (by rw[hU.len];omega) om_ w hs0 (hw.slAt hks (by simp[ids])) (fun h0 b q hb=>lo_notS hw (show Pick [b2B a.2.1.2 x2 th u.c u.lo u.q,b2S x2 u.v th u.c u.lo u.q] _ _ from pk_) (sl_in hks h0 hb))) fun oM _=>pA_ 6 ?_
        refine Le (Cn_ (rnew2_g x.db (th:Nat) ⟨by omega,by omega⟩)) fun rb2 _=>pA_ 9 ?_
        refine Le (Cn_ (rnew22_g x2.db (th:Nat) ⟨by omega,by omega⟩)) fun wb2 _=>pA_ 12 ?_
        refine V.PQ.perm (sg':=[b1S rb2 x (u.v.cut ks) (rv0 (th:Nat)) none,b2B wb2 x2 th rco0 none none,b2S x2 (u.v.cut ks) th rco0 none none]) ?_ (start_perm rb2 wb2 x x2 (u.v.cut ks) th)
        exact roundA ((a.1+1,(rb2,wb2),bst0 (u.v.cut ks) th)) ⟨by simp only;omega,Bi.new (by rw[cutV_len];exact hU.len) om_⟩ (by simp only;omega)
       ·refine pA_ 8 ?_
        exact roundA ((a.1+1,a.2.1,u)) ⟨by simp only;omega,hU⟩ (by simp only;omega)
    ·refine pA_ 8 ?_
     refine Le (Cm_ (stepPB_g a.2.1.1 x th n a.2.2 hB h1 h4)) fun q hq=>Le (Cz_ (num_g _)) fun _ _=>Lv Mv<|Le (Cm_ (stepWB_g a.2.1.2 x2 th n a.2.2 hB hn1 h1 h4)) fun z hz=>Lv Cm<|LW.re 168 (.bool true) rfl (by simp)<|Lv Mv<|Le (Cz_ awake_g) fun _ _=>pA_ 6 ?_
     exact fb_
theorem script_c (sl th:Int)(clk:Int)(hck:0≤clk∧clk<18446744073709551616)(l:List Laid)(p:Option Addr)(c:Nat)(cs:List Int)(pc:Option Addr)(cc:Nat)(ks:List Int)(pk:Option Addr)(ck:Nat)(w:World)(hp:LdR w p l)(hcs:V.slAt w pc 1 inI cs)(hks:V.slAt w pk 1 inI ks):Calls Tryz.prog 3 [.int .i64 sl,.int .i64 th,.int .u64 clk,.slice p l.length c,.slice pc cs.length cc,.slice pk ks.length ck].toArray w fun e w'=>e= .returned (.bool true)∧Below w.heap.size w w':=by
 by_cases h:th<1∨4<th
 ·exact scriptN_c sl th h clk hck l p c cs pc cc ks pk ck w hp hcs hks
 ·obtain⟨k,rfl⟩:∃k:Nat,th=(k:Int):=⟨th.toNat,by omega⟩
  exact scriptY_c sl k om_ om_ clk hck l p c cs pc cc ks pk ck w hp hcs hks
end
end G
end Go.Proofs.YteejleakfbnpcaaGreat
namespace Go.Proofs.YteejleakfbnpcaaGreat
open Go Go.RowKit V
set_option linter.unusedVariables false
set_option maxRecDepth 100000
namespace G
open V (str byC ownV ownG ownS ownOk)
theorem cellsOf3:Tryz.prog.cellsOf 3=1:=by kernel_rfl
theorem cellsOf5:Tryz.prog.cellsOf 5=1:=by kernel_rfl
theorem cellsOf9:Tryz.prog.cellsOf 9=1:=by kernel_rfl
theorem cellsOf22:Tryz.prog.cellsOf 22=1:=by kernel_rfl
theorem cellsOf53:Tryz.prog.cellsOf 53=7:=by kernel_rfl
theorem cellsOf54:Tryz.prog.cellsOf 54=1:=by kernel_rfl
theorem cellsOf56:Tryz.prog.cellsOf 56=10:=by kernel_rfl
theorem open56 {H:Type}{enc:TypeId×Value→H}{w:World}{base:Nat}{spare:Nat→Bool}{held:Bool}{fuel:Nat}{cs:List Value}{x:DataW H×List MemPlace}(h:DataW.trod enc Tryz.prog w base spare held fuel 56 cs=some x):
 ∃(v0:Int) (v1:Int) (v2:Int) (v3:Int) (v4:Int) (v5:Int) (v6:ByteArray) (v7:ByteArray) (p8:Option Addr) (n8:Nat) (q8:Nat) (l8:List (List Value)) (v9:Int),cs=[.int .i64 v0,.int .i64 v1,.int .i64 v2,.int .u64 v3,.int .u64 v4,.int .u64 v5,.string v6,.string v7,.slice p8 n8 q8,.int .i64 v9]∧(Lit.int .i64 v0).wf=true∧(Lit.int .i64 v1).wf=true∧(Lit.int .i64 v2).wf=true∧(Lit.int .u64 v3).wf=true∧(Lit.int .u64 v4).wf=true∧(Lit.int .u64 v5).wf=true∧v6.size≤maxLen∧v7.size≤maxLen∧n8=l8.length∧n8≤maxLen∧V.slAt w p8 1 id l8∧(∀c∈l8,∃m y,DataW.trod enc Tryz.prog w base spare held m 5 c=some y)∧(Lit.int .i64 v9).wf=true:=by
 have hlen:=(V.trod_fields Tryz.underlying56 h).1
 rw[cellsOf56] at hlen
 match cs,hlen with
 |[c0,c1,c2,c3,c4,c5,c6,c7,c8,c9],_=>
  obtain⟨_,m0,g0⟩:=V.trod_fields Tryz.underlying56 h
  obtain⟨y0_0,f0_0⟩:=g0 0 _ rfl 3 0 1 rfl rfl cellsOf3
  simp only[List.drop,List.take] at f0_0
  obtain⟨v0,e0,_,w0⟩:=DataW.trod_int Tryz.underlying3 f0_0
  simp only[List.cons.injEq,and_true] at e0;subst e0
  obtain⟨y0_1,f0_1⟩:=g0 1 _ rfl 53 1 7 rfl rfl cellsOf53
  simp only[List.drop,List.take] at f0_1
  obtain⟨_,m1,g1⟩:=V.trod_fields Tryz.underlying53 f0_1
  obtain⟨y1_0,f1_0⟩:=g1 0 _ rfl 3 0 1 rfl rfl cellsOf3
  simp only[List.drop,List.take] at f1_0
  obtain⟨v1,e1,_,w1⟩:=DataW.trod_int Tryz.underlying3 f1_0
  simp only[List.cons.injEq,and_true] at e1;subst e1
  obtain⟨y1_1,f1_1⟩:=g1 1 _ rfl 3 1 1 rfl rfl cellsOf3
  simp only[List.drop,List.take] at f1_1
  obtain⟨v2,e2,_,w2⟩:=DataW.trod_int Tryz.underlying3 f1_1
  simp only[List.cons.injEq,and_true] at e2;subst e2
  obtain⟨y1_2,f1_2⟩:=g1 2 _ rfl 22 2 1 rfl rfl cellsOf22
  simp only[List.drop,List.take] at f1_2
  obtain⟨v3,e3,_,w3⟩:=DataW.trod_int Tryz.underlying22 f1_2
  simp only[List.cons.injEq,and_true] at e3;subst e3
  obtain⟨y1_3,f1_3⟩:=g1 3 _ rfl 22 3 1 rfl rfl cellsOf22
  simp only[List.drop,List.take] at f1_3
  obtain⟨v4,e4,_,w4⟩:=DataW.trod_int Tryz.underlying22 f1_3
  simp only[List.cons.injEq,and_true] at e4;subst e4
  obtain⟨y1_4,f1_4⟩:=g1 4 _ rfl 22 4 1 rfl rfl cellsOf22
  simp only[List.drop,List.take] at f1_4
  obtain⟨v5,e5,_,w5⟩:=DataW.trod_int Tryz.underlying22 f1_4
  simp only[List.cons.injEq,and_true] at e5;subst e5
  obtain⟨y1_5,f1_5⟩:=g1 5 _ rfl 9 5 1 rfl rfl cellsOf9
  simp only[List.drop,List.take] at f1_5
  obtain⟨v6,e6,_,w6⟩:=DataW.trod_string Tryz.underlying9 f1_5
  simp only[List.cons.injEq,and_true] at e6;subst e6
  obtain⟨y1_6,f1_6⟩:=g1 6 _ rfl 9 6 1 rfl rfl cellsOf9
  simp only[List.drop,List.take] at f1_6
  obtain⟨v7,e7,_,w7⟩:=DataW.trod_string Tryz.underlying9 f1_6
  simp only[List.cons.injEq,and_true] at e7;subst e7
  obtain⟨y0_2,f0_2⟩:=g0 2 _ rfl 54 8 1 rfl rfl cellsOf54
  simp only[List.drop,List.take] at f0_2
  obtain⟨p8,n8,q8,l8,e8,z8,x8,s8,t8⟩:=V.open_sl (sz:=1) Tryz.underlying54 cellsOf5 (by decide) f0_2
  simp only[List.cons.injEq,and_true] at e8;subst e8
  obtain⟨y0_3,f0_3⟩:=g0 3 _ rfl 3 9 1 rfl rfl cellsOf3
  simp only[List.drop,List.take] at f0_3
  obtain⟨v9,e9,_,w9⟩:=DataW.trod_int Tryz.underlying3 f0_3
  simp only[List.cons.injEq,and_true] at e9;subst e9
  exact⟨v0,v1,v2,v3,v4,v5,v6,v7,p8,n8,q8,l8,v9,rfl,w0,w1,w2,w3,w4,w5,w6,w7,z8,x8,s8,t8,w9⟩
section
variable {H:Type}{enc:TypeId×Value→H}{w:World}{base:Nat}{spare:Nat→Bool}{held:Bool}{fuel:Nat}{cs:List Value}{x:DataW H×List MemPlace}
theorem open_by (h:DataW.trod enc Tryz.prog w base spare held fuel 5 cs=some x):∃u:UInt8,cs=byE u∧True:=by
 obtain⟨v,e,_,hw⟩:=DataW.trod_int Tryz.underlying5 h
 rw[Lit.wf_int_iff] at hw
 have h1:(0:Int)≤v:=hw.1
 have h2:v≤(255:Int):=hw.2
 refine⟨UInt8.ofNat v.toNat,?_,trivial⟩
 rw[e]
 show[Value.int .u8 v]=[Value.int .u8 (((UInt8.ofNat v.toNat).toNat:Nat):Int)]
 rw[UInt8.toNat_ofNat',Nat.mod_eq_of_lt (by omega)]
 congr 2;omega
theorem open_in (h:DataW.trod enc Tryz.prog w base spare held fuel 3 cs=some x):∃z:Int,cs=inI z∧True:=by
 obtain⟨v,e,_⟩:=DataW.trod_int Tryz.underlying3 h
 exact⟨v,e,trivial⟩
theorem open_ld (h:DataW.trod enc Tryz.prog w base spare held fuel 56 cs=some x):∃y:Laid,cs=ldC y∧V.slAt w y.rp 1 byE y.raw:=by
 obtain⟨v0,v1,v2,v3,v4,v5,v6,v7,p8,n8,q8,l8,v9,rfl,w0,w1,w2,w3,w4,w5,w6,w7,z8,x8,s8,t8,w9⟩:=open56 h
 obtain⟨gl,hgl,_⟩:=V.list_choice (enc':=byE) (p:=fun _=>True) (l:=l8) (fun c hc=>by
  obtain⟨m,y,hy⟩:=t8 c hc
  exact open_by hy)
 have e1:n8=gl.length:=by simp[z8,hgl]
 exact⟨⟨v0,⟨v1,v2,v3,v4,v5,v6.data.toList,v7.data.toList⟩,p8,gl,q8,v9⟩,by subst e1;rfl,V.slAt_map s8 hgl⟩
theorem open_laid {p:Option Addr}{l:List (List Value)}(hs:V.slAt w p 10 id l)(ht:∀c∈l,∃m y,DataW.trod enc Tryz.prog w base spare held m 56 c=some y):∃m:List Laid,l.length=m.length∧LdR w p m:=by
 obtain⟨m,hm,ho⟩:=V.list_choice (enc':=ldC) (p:=fun y=>V.slAt w y.rp 1 byE y.raw) (l:=l) (fun c hc=>by
  obtain⟨k,y,hy⟩:=ht c hc
  exact open_ld hy)
 exact⟨m,by simp[hm],V.slAt_map hs hm,ho⟩
theorem open_ints {p:Option Addr}{l:List (List Value)}(hs:V.slAt w p 1 id l)(ht:∀c∈l,∃m y,DataW.trod enc Tryz.prog w base spare held m 3 c=some y):∃m:List Int,l.length=m.length∧V.slAt w p 1 inI m:=by
 obtain⟨m,hm,_⟩:=V.list_choice (enc':=inI) (p:=fun _=>True) (l:=l) (fun c hc=>by
  obtain⟨k,y,hy⟩:=ht c hc
  exact open_in hy)
 exact⟨m,by simp[hm],V.slAt_map hs hm⟩
end
end G
end Go.Proofs.YteejleakfbnpcaaGreat
