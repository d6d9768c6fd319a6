/- Walks of functions that the law reaches: each call comes to what the Lean function of its name tells. -/
import Derived.Test.YtldiiicbgdfapaaPFnExactWovenBlockx20
namespace Go.Proofs.Ytldiiicbgdfapaa.PFnExactWovenBlock
open Go.RowKit Go.Proofs.YtldiiicbgdfapaaW.PrintWords Go.Proofs.YtldiiicbgdfapaaW.PrintLast Go.Proofs.YtldiiicbgdfapaaW.PrintMore
attribute [local go_sem] max2_int min2_int max_two min_two max_three min_three max_four min_four
set_option linter.unusedVariables false
set_option maxHeartbeats 8000000
set_option maxRecDepth 100000
set_option linter.unusedSimpArgs false
def impl_thirdLengths.l0:Nat→List Int→List (S52)→Int→Int→Option (List Int)
  | 0,_,_,_,_=>none
  | k+1,x3,x9,x10,x11=>if x11<x10 then(if 0≤x11 then(if x11<(x9.length:Int)then(if 0≤((rd_T52 x9 x11).f0)then(if((rd_T52 x9 x11).f0)<(x3.length:Int)then(impl_thirdLengths.l0 k (x3.set (((rd_T52 x9 x11).f0):Int).toNat (wrap64 ((rd x3 ((rd_T52 x9 x11).f0))+1))) x9 x10 (wrap64 (x11+1)))else(none))else(none))else(none))else(none))else((impl_LimitedLengths.f k x3 7).bind fun bt700=>((impl_CodeKind.f bt700.1).bind fun t704=>(if t704=3 then(if 0<(bt700.1.length:Int)then(if(rd bt700.1 0)=0 then(some (bt700.1.set (0:Int).toNat 1))else(if 1<(bt700.1.length:Int)then(some (bt700.1.set (1:Int).toNat 1))else(none)))else(none))else(some bt700.1))))
def impl_thirdLengths.f (k:Nat) (l0:List (S52)):Option (List Int):=if 19≤35184372088832 then(impl_thirdLengths.l0 k (List.replicate 19 0) l0 (l0.length:Int) 0)else(none)
theorem impl_thirdLengths.calls (k:Nat) (A0:Option Addr) (c0:Nat) (l0:List (S52)) (r:List Int) (w:World) (hr0:Kd.C k52 w A0 l0.length l0) (hc0:l0.length≤c0) (h:impl_thirdLengths.f k l0=some r) :
 Calls Try.prog 36 #[.slice A0 l0.length c0] w fun e w' => ∃ v0_:Value,e = .returned (v0_)∧Kd.R (Kd.int .i64) 3 w' w.heap.size (fun _=>True) v0_ r∧Below w.heap.size w w':=by
 have hu52:=Try.underlying52;have HR0:=aM hr0;have HC0:=aM hc0;clear hr0 hc0;have HB:=aM (zQ w.heap.size w);have H:(if 19≤35184372088832 then(impl_thirdLengths.l0 k (List.replicate 19 0) l0 (l0.length:Int) 0)else(none))=some r:=h;clear h;revert H;refine ifR fun c2=>?_;intro H;have bS:=zB c2;have bT:=zN c2;clear c2;obtain⟨bg,hy_⟩:∃ y_:List Int,y_=(List.replicate 19 0):=⟨_,rfl⟩;replace H:(impl_thirdLengths.l0 k bg l0 (l0.length:Int) 0)=some r:=nH;have aH:=aM hy_;clear hy_;revert H;refine adR fun H'=>?_;go_enter Try.func36,Try.ntmps36
 go_wp2_with (first|((with_reducible refine gD 8 ?_);refine Kd.R_make (Kd.int .i64) _ 3 rfl (N:=8) rfl 45 _ _ rfl 19 rfl rfl Try.underlying45 (.int .i64 0) 8 info3 rfl (by decide) (by omega) 0 (ok:=fun _=>True) (okp:=fun _=>True) rfl (fun _ hk=>hk) trivial (by omega) (by omega) (zQ _ _) (zI _) ?_;intro bh w3 ho4 hb hg_ hnew_;clear hg_ hnew_;(first|rw[← aH.out]at ho4|(simp only[Int.reduceToNat]at ho4;rw[← aH.out]at ho4));have bi:=aM (zb ho4 (zD hB));replace HB:=hS hb;clear hb ho4))
 go_loopg [11] k (fun kq v11 w' => ∃ (af:List Int) (ab:Int),v11 = .int .i64 ab∧Aside0 (impl_thirdLengths.l0 kq af l0 (l0.length:Int) ab=some r)∧Aside0 (kq≤k)∧Aside0 (Kd.R (Kd.int .i64) 3 w' w.heap.size (fun _=>True) bh af)∧Aside0 (Below w.heap.size w w'))
 case atStart=>exact⟨(bg),(0),eQ,H',⟨zI _⟩,⟨zA bi.out⟩,⟨hB⟩⟩
 case round =>
  clear H';(try clear c2);(try clear bS);(try clear bT);(try clear p2);obtain⟨af,ab,rfl,HA,HK1,ac,HB⟩:=hrel;rcases gk with _|k1
  · exact absurd HA.out (by simp[impl_thirdLengths.l0])
  revert HA;refine aoR ?_;intro H;simp only[impl_thirdLengths.l0]at H;revert H
  refine iB (fun bj=>?_) (fun bj=>?_)
  · refine iR fun cD=>?_;refine iR fun cE=>?_;refine iR fun cF=>?_;refine iR fun cG=>?_;intro H;obtain⟨aJ,hy_⟩:∃ y_:List Int,y_=(af.set (((rd_T52 l0 ab).f0):Int).toNat (wrap64 ((rd af ((rd_T52 l0 ab).f0))+1))):=⟨_,rfl⟩;replace H:(impl_thirdLengths.l0 k1 aJ l0 (l0.length:Int) (wrap64 (ab+1)))=some r:=nH;have bk:=aM hy_;clear hy_;revert H;refine adR fun H'=>?_;have aK:0≤(ab:Int):=bD;have aN:ab<(l0.length:Int):=bD;obtain⟨cu,bU,au,av⟩:=at_T52 HR0.out ab aK aN;cases bU;replace au:=cB0 HB au;replace av:=cB0 HB av;replace aK:=zB aK;replace aN:=zB aN
    go_wp2_with (first|(refine bE 5 #[.int .i64 0,.int .i64 0] 52 ?_;intro ak hg w11 hbox hb;replace ac:=Kd.wR ac hb;have aj:=aM hbox;have bl:=aM (sZ hg);have cw:=bl;replace HB:=hS hb;clear hb hbox hg;have cH:=bz2 aj)|((with_reducible refine gate_store (t:=52) (p:=5) rfl ?_);refine store_event (t:=52) (p:=5) (v:=?vo_w13) (w1:=((w11.setCell ⟨ak,0,none⟩ (.int .i64 ((rd_T52 l0 ab).f0))).setCell ⟨ak,1,none⟩ (.int .i64 ((rd_T52 l0 ab).f1)))) ?hg ?ho ?hn ?hr ?_;(case ho=>rfl);(case hg=>rfl);(case hn=>rfl);(case hr=>first|(go_simp;done)|(go_simp;rfl));intro w13 hw;have n0_:Aside0 (Kd.R (Kd.int .i64) 3 w13 w.heap.size (fun _=>True) bh af):=⟨(by rw[hw];exact(zA (zH (zw (p:=⟨ak,1,none⟩) (zw (p:=⟨ak,0,none⟩) (zj ac.out aj.out (by decide)) (fun _ hk=>hk.2) (.int .i64 ((rd_T52 l0 ab).f0))) (fun _ hk=>hk.2) (.int .i64 ((rd_T52 l0 ab).f1))) (fun _ hk=>trivial))))⟩;have n1_:Aside0 (w13.heap[ak]? = some (.cells #[.int .i64 ((rd_T52 l0 ab).f0),.int .i64 ((rd_T52 l0 ab).f1)] 52 (0,0))):=⟨(by rw[hw];exact kB)⟩;have n2_:Aside0 (Below w.heap.size w w13):=⟨(by rw[hw];exact hB)⟩;clear hw;clear ac;clear aj;clear HB;have ac:=n0_;have aj:=n1_;have HB:=n2_;clear n0_ n1_ n2_;have cI:=bz2 aj;obtain⟨cJ,bV,bX⟩:=zY ac.out;subst bX;have aQ:0≤(((rd_T52 l0 ab).f0):Int):=bD;have aT:((rd_T52 l0 ab).f0)<(af.length:Int):=bD;obtain⟨cx,bY,aC⟩:=zV (zJ ac.out).2.2 ((rd_T52 l0 ab).f0) aQ aT;cases bY;replace aQ:=zB aQ;replace aT:=zB aT;have p10:0≤(((rd_T52 l0 ab).f0):Int):=bD;have q10:(((rd_T52 l0 ab).f0):Int)<((af.length:Int):Int):=bD;obtain⟨go10,cK,bn,bo,gl10,cl10,HG10⟩:=Kd.R_form ac.out (by omega);(first|cases bn|(injection bn with ea_ en_ ec_;(first|subst ea_|(injection ea_ with ea_;subst ea_));subst ec_;clear en_));have bZ:=aM bo;have cL:=aM HG10;clear bo gl10 HG10;(first|simp only[add_plain]at aC|skip);obtain⟨b0,b6⟩:=ZG 0 ac.out (((rd_T52 l0 ab).f0):Int) p10 q10;replace p10:=zB p10;replace q10:=zB q10;obtain⟨hy16_,hz16_⟩:=ZG 0 ac.out (((rd_T52 l0 ab).f0):Int) (bD) (bD);have aU:=Kd.R_putg ac.out (((rd_T52 l0 ab).f0):Int) (wrap64 ((rd af ((rd_T52 l0 ab).f0))+1)))|((with_reducible refine gate_store (t:=3) (p:=21) rfl ?_);refine store_event (t:=3) (p:=21) (v:=?vo_w17) (w1:=(w13.setCell ⟨go10,(((rd_T52 l0 ab).f0):Int).toNat,none⟩ (.int .i64 (wrap64 ((rd af ((rd_T52 l0 ab).f0))+1))))) ?hg ?ho ?hn ?hr ?_;(case ho=>rfl);(case hg=>rfl);(case hn=>rfl);(case hr=>first|(go_simp;done)|(go_simp;rfl));intro w17 hw;have hg:w13.grownBy w17 (some go10):=(by rw[hw];exact aU.2);have hp_:Kd.R (Kd.int .i64) 3 w17 w.heap.size (fun _=>True) (.slice (some ⟨go10,0,none⟩) af.length bV) aJ:=(by rw[hw,bk.out];exact aU.1);clear aU;replace aj:=aM (zf (g:=ak) (o:=.cells #[.int .i64 ((rd_T52 l0 ab).f0),.int .i64 ((rd_T52 l0 ab).f1)] 52 (0,0)) (bI aj.out) hg (zt ac.out aj.out (by decide)));replace ac:=aM hp_;replace HB:=aM ((by rw[hw];exact below_set (HB.out) bZ.out:Below w.heap.size w w17));clear hg hw hp_));go_roundg k1
    case measure=>have:=HK1.out;omega
    case rel=>exact⟨(aJ),(wrap64 (ab+1)),eQ,H',⟨by have:=HK1.out;omega⟩,⟨zA ac.out⟩,⟨hB⟩⟩
  · refine bdR fun⟨ae,aV⟩ A18=>?_;intro H
    try dsimp only at H
    revert H;refine bdR fun t704 A19=>?_
    refine iQ (fun bq br=>?_) (fun c20 bq br=>?_)
    · refine ifR fun c21=>?_;intro H;have cy:=zN c21;have cz:decide (0<ae.length)=true:=zN (by omega);clear c21;revert H
      refine iQ (fun bu bv=>?_) (fun c22 bu bv=>?_)
      · intro H;obtain⟨bw,hy_⟩:∃ y_:List Int,y_=(ae.set (0:Int).toNat 1):=⟨_,rfl⟩;replace H:(some bw)=some r:=nH;have bx:=aM hy_;clear hy_;obtain rfl:=zC H;obtain⟨aW,aX,b7⟩:=zY ac.out;subst b7
        go_wp2_with (first|(refine gL (some 25) Try.func71 #[.slice aW af.length aX,.int .i64 7] ?_;(with_reducible refine(impl_LimitedLengths.calls k1 _ _ af 7 ae aV _ ?s1 ?s2 A18.out).mono ?_);(case s1=>exact Kd.C_i (zJ ac.out).2.2);(case s2=>exact(zJ ac.out).2.1);rintro e w25 ⟨bz,rfl,ho0,hb⟩;refine⟨_,rfl,?_⟩;have aa:=aM (zb (zi ho0 (zX (zA ac.out))) (zD hB));replace ac:=aM (zZ (zA ac.out) (ze ho0) hb);replace HB:=hS hb;clear hb ho0;obtain⟨b8,aD,b9⟩:=zY aa.out;subst b9)|(refine gL (some 29) Try.func77 #[.slice b8 ae.length aD] ?_;(with_reducible refine(impl_CodeKind.calls _ _ ae t704 _ ?s1 ?s2 A19.out).mono ?_);(case s1=>exact Kd.C_i (zJ aa.out).2.2);(case s2=>exact(zJ aa.out).2.1);rintro e w27 ⟨rfl,hb⟩;refine⟨_,rfl,?_⟩;replace ac:=Kd.wR ac hb;replace aa:=Kd.wR aa hb;replace HB:=hS hb;clear hb;have ap:0≤(0:Int):=(by omega);have aq:0<(ae.length:Int):=bD;obtain⟨bA,aY,ag⟩:=zV (zJ aa.out).2.2 0 ap aq;cases aY;have qi705:(0<ae.length)=True:=zB (by omega);(try rw[show((0:Int)).toNat=0 from rfl]at ag);(try rw[Addr.add_zero']at ag);replace ap:=zB ap;replace aq:=zB aq;have p23:0≤(0:Int):=(by omega);have q23:(0:Int)<((ae.length:Int):Int):=bD;have qi23:(0<ae.length)=True:=zB (by omega);obtain⟨go23,cM,bF,bG,gl23,cl23,HG23⟩:=Kd.R_form aa.out (by omega);(first|cases bF|(injection bF with ea_ en_ ec_;(first|subst ea_|(injection ea_ with ea_;subst ea_));subst ec_;clear en_));have ca:=aM bG;have cN:=aM HG23;clear bG gl23 HG23;(first|simp only[add_plain]at ag|skip);obtain⟨aw,ax⟩:=ZG 0 aa.out (0:Int) p23 q23;(try rw[show((0:Int)).toNat=0 from rfl]at aw);(try simp only[Nat.reduceMul,Nat.zero_mul,Nat.zero_add,Nat.reduceAdd]at aw);(try rw[show((0:Int)).toNat=0 from rfl]at ax);(try simp only[Nat.reduceMul,Nat.zero_mul,Nat.zero_add,Nat.reduceAdd]at ax);replace p23:=zB p23;replace q23:=zB q23;have n_:=aM (zH (ok':=(fun k_=>some k_≠(.slice aW af.length aX:Value).ownBlock)) aa.out (fun k_ hk=>hk.2));clear aa;have aa:=n_;clear n_;obtain⟨hy28_,hz28_⟩:=ZG 0 aa.out (0:Int) (by omega) (bD);(try simp only[Int.reduceToNat,Int.toNat_zero,Int.toNat_ofNat,Nat.reduceMul,Nat.zero_mul,Nat.zero_add]at hy28_ hz28_);(try rw[show((0:Int)).toNat=0 from rfl]at hy28_);(try rw[show((0:Int)).toNat=0 from rfl]at hz28_);have aZ:=Kd.R_putg aa.out (0:Int) 1)|((with_reducible refine gate_store (t:=3) (p:=36) rfl ?_);refine store_event (t:=3) (p:=36) (v:=?vo_w29) (w1:=(w27.setCell ⟨go23,(0:Int).toNat,none⟩ (.int .i64 1))) ?hg ?ho ?hn ?hr ?_;(case ho=>rfl);(case hg=>rfl);(case hn=>rfl);(case hr=>first|(go_simp;done)|(go_simp;rfl));intro w29 hw;have hg:w27.grownBy w29 (some go23):=(by rw[hw];exact aZ.2);have hp_:Kd.R (Kd.int .i64) 3 w29 w.heap.size (fun k_=>some k_≠(.slice aW af.length aX:Value).ownBlock) (.slice (some ⟨go23,0,none⟩) ae.length aD) bw:=(by rw[hw,bx.out];exact aZ.1);clear aZ;replace ac:=aM (Kd.R_after (v:=(.slice (some ⟨go23,0,none⟩) ae.length aD)) (v1:=(.slice (some ⟨go23,0,none⟩) ae.length aD)) (ok:=(fun _=>True)) (zA ac.out) hg (.inl rfl));replace aa:=aM hp_;replace HB:=aM ((by rw[hw];exact below_set (HB.out) ca.out:Below w.heap.size w w29));clear hg hw hp_));go_ret;exact⟨_,eE,zA (zH aa.out (fun _ hk=>trivial)),hB⟩
      · refine ifR fun c30=>?_;intro H;have cA:=zN c30;have cC:decide (1<ae.length)=true:=zN (by omega);clear c30;obtain⟨bH,hy_⟩:∃ y_:List Int,y_=(ae.set (1:Int).toNat 1):=⟨_,rfl⟩;replace H:(some bH)=some r:=nH;have bJ:=aM hy_;clear hy_;obtain rfl:=zC H;obtain⟨bb,be,cd⟩:=zY ac.out;subst cd
        go_wp2_with (first|(refine gL (some 25) Try.func71 #[.slice bb af.length be,.int .i64 7] ?_;(with_reducible refine(impl_LimitedLengths.calls k1 _ _ af 7 ae aV _ ?s1 ?s2 A18.out).mono ?_);(case s1=>exact Kd.C_i (zJ ac.out).2.2);(case s2=>exact(zJ ac.out).2.1);rintro e w33 ⟨bz,rfl,ho0,hb⟩;refine⟨_,rfl,?_⟩;have aa:=aM (zb (zi ho0 (zX (zA ac.out))) (zD hB));replace ac:=aM (zZ (zA ac.out) (ze ho0) hb);replace HB:=hS hb;clear hb ho0;obtain⟨ce,aG,cg⟩:=zY aa.out;subst cg)|(refine gL (some 29) Try.func77 #[.slice ce ae.length aG] ?_;(with_reducible refine(impl_CodeKind.calls _ _ ae t704 _ ?s1 ?s2 A19.out).mono ?_);(case s1=>exact Kd.C_i (zJ aa.out).2.2);(case s2=>exact(zJ aa.out).2.1);rintro e w35 ⟨rfl,hb⟩;refine⟨_,rfl,?_⟩;replace ac:=Kd.wR ac hb;replace aa:=Kd.wR aa hb;replace HB:=hS hb;clear hb;have ap:0≤(0:Int):=(by omega);have aq:0<(ae.length:Int):=bD;obtain⟨bA,aY,ag⟩:=zV (zJ aa.out).2.2 0 ap aq;cases aY;have qi705:(0<ae.length)=True:=zB (by omega);(try rw[show((0:Int)).toNat=0 from rfl]at ag);(try rw[Addr.add_zero']at ag);replace ap:=zB ap;replace aq:=zB aq;have p31:0≤(1:Int):=(by omega);have q31:(1:Int)<((ae.length:Int):Int):=bD;have qi31:(1<ae.length)=True:=zB (by omega);obtain⟨go31,cO,bK,bM,gl31,cl31,HG31⟩:=Kd.R_form aa.out (by omega);(first|cases bK|(injection bK with ea_ en_ ec_;(first|subst ea_|(injection ea_ with ea_;subst ea_));subst ec_;clear en_));have ch:=aM bM;have cP:=aM HG31;clear bM gl31 HG31;(first|simp only[add_plain]at ag|skip);obtain⟨ay,az⟩:=ZG 0 aa.out (1:Int) p31 q31;(try rw[show((1:Int)).toNat=1 from rfl]at ay);(try simp only[Nat.reduceMul,Nat.zero_mul,Nat.zero_add,Nat.reduceAdd]at ay);(try rw[show((1:Int)).toNat=1 from rfl]at az);(try simp only[Nat.reduceMul,Nat.zero_mul,Nat.zero_add,Nat.reduceAdd]at az);replace p31:=zB p31;replace q31:=zB q31;have n_:=aM (zH (ok':=(fun k_=>some k_≠(.slice bb af.length be:Value).ownBlock)) aa.out (fun k_ hk=>hk.2));clear aa;have aa:=n_;clear n_;obtain⟨hy36_,hz36_⟩:=ZG 0 aa.out (1:Int) (by omega) (bD);(try simp only[Int.reduceToNat,Int.toNat_zero,Int.toNat_ofNat,Nat.reduceMul,Nat.zero_mul,Nat.zero_add]at hy36_ hz36_);(try rw[show((1:Int)).toNat=1 from rfl]at hy36_);(try rw[show((1:Int)).toNat=1 from rfl]at hz36_);have bf:=Kd.R_putg aa.out (1:Int) 1)|((with_reducible refine gate_store (t:=3) (p:=38) rfl ?_);refine store_event (t:=3) (p:=38) (v:=?vo_w37) (w1:=(w35.setCell ⟨go31,(1:Int).toNat,none⟩ (.int .i64 1))) ?hg ?ho ?hn ?hr ?_;(case ho=>rfl);(case hg=>rfl);(case hn=>rfl);(case hr=>first|(go_simp;done)|(go_simp;rfl));intro w37 hw;have hg:w35.grownBy w37 (some go31):=(by rw[hw];exact bf.2);have hp_:Kd.R (Kd.int .i64) 3 w37 w.heap.size (fun k_=>some k_≠(.slice bb af.length be:Value).ownBlock) (.slice (some ⟨go31,0,none⟩) ae.length aG) bH:=(by rw[hw,bJ.out];exact bf.1);clear bf;replace ac:=aM (Kd.R_after (v:=(.slice (some ⟨go31,0,none⟩) ae.length aG)) (v1:=(.slice (some ⟨go31,0,none⟩) ae.length aG)) (ok:=(fun _=>True)) (zA ac.out) hg (.inl rfl));replace aa:=aM hp_;replace HB:=aM ((by rw[hw];exact below_set (HB.out) ch.out:Below w.heap.size w w37));clear hg hw hp_));go_ret;exact⟨_,eE,zA (zH aa.out (fun _ hk=>trivial)),hB⟩
    · intro H;obtain rfl:=zC H;obtain⟨ci,cj,ck⟩:=zY ac.out;subst ck
      go_wp2_with (first|(refine gL (some 25) Try.func71 #[.slice ci af.length cj,.int .i64 7] ?_;(with_reducible refine(impl_LimitedLengths.calls k1 _ _ af 7 ae aV _ ?s1 ?s2 A18.out).mono ?_);(case s1=>exact Kd.C_i (zJ ac.out).2.2);(case s2=>exact(zJ ac.out).2.1);rintro e w39 ⟨bz,rfl,ho0,hb⟩;refine⟨_,rfl,?_⟩;have aa:=aM (zb (zi ho0 (zX (zA ac.out))) (zD hB));replace ac:=aM (zZ (zA ac.out) (ze ho0) hb);replace HB:=hS hb;clear hb ho0;obtain⟨cl,cm,cn⟩:=zY aa.out;subst cn)|(refine gL (some 29) Try.func77 #[.slice cl ae.length cm] ?_;(with_reducible refine(impl_CodeKind.calls _ _ ae t704 _ ?s1 ?s2 A19.out).mono ?_);(case s1=>exact Kd.C_i (zJ aa.out).2.2);(case s2=>exact(zJ aa.out).2.1);rintro e w41 ⟨rfl,hb⟩;refine⟨_,rfl,?_⟩;replace ac:=Kd.wR ac hb;replace aa:=Kd.wR aa hb;replace HB:=hS hb;clear hb));go_ret;exact⟨_,eE,zA (zH aa.out (fun _ hk=>trivial)),hB⟩
def impl_orderOf.f:Option (List Int):=some (([16,17,18,0,8,7,9,6,10,5,11,4,12,3,13,2,14,1,15]:List Int))
theorem impl_orderOf.calls  (r:List Int) (w:World) (h:impl_orderOf.f=some r) :
 Calls Try.prog 37 #[] w fun e w' => ∃ v0_:Value,e = .returned (v0_)∧Kd.R (Kd.int .i64) 3 w' w.heap.size (fun _=>True) v0_ r∧Below w.heap.size w w':=by
 have HB:=aM (zQ w.heap.size w);have H:(some (([16,17,18,0,8,7,9,6,10,5,11,4,12,3,13,2,14,1,15]:List Int)))=some r:=h;clear h;obtain⟨cp,hy_⟩:∃ y_:List Int,y_=(([16,17,18,0,8,7,9,6,10,5,11,4,12,3,13,2,14,1,15]:List Int)):=⟨_,rfl⟩;replace H:(some cp)=some r:=nH;have aI:=aM hy_;clear hy_;obtain rfl:=zC H;go_enter Try.func37,Try.ntmps37
 go_wp2_with (first|((with_reducible refine gD 1 ?_);refine Kd.R_lit (Kd.int .i64) _ 3 ?hg (N:=1) ?hd (xs:=([16,17,18,0,8,7,9,6,10,5,11,4,12,3,13,2,14,1,15]:List Int)) (inner:=[.int .i64 16,.int .i64 17,.int .i64 18,.int .i64 0,.int .i64 8,.int .i64 7,.int .i64 9,.int .i64 6,.int .i64 10,.int .i64 5,.int .i64 11,.int .i64 4,.int .i64 12,.int .i64 3,.int .i64 13,.int .i64 2,.int .i64 14,.int .i64 1,.int .i64 15]) (ok:=fun _=>True) (okp:=fun _=>True) ?hr ?hp (fun _ hk=>hk) trivial (zQ _ _) (zI _) (by simp) ?_;(case hd=>rfl);(case hg=>rfl);(case hr=>first|(go_simp;done)|(go_simp;rfl));(case hp=>exact(Reps.one (show Kd.M (Kd.int .i64) _ _ _ 16 [.int .i64 16]from rfl) (Reps.one (show Kd.M (Kd.int .i64) _ _ _ 17 [.int .i64 17]from rfl) (Reps.one (show Kd.M (Kd.int .i64) _ _ _ 18 [.int .i64 18]from rfl) (Reps.one (show Kd.M (Kd.int .i64) _ _ _ 0 [.int .i64 0]from rfl) (Reps.one (show Kd.M (Kd.int .i64) _ _ _ 8 [.int .i64 8]from rfl) (Reps.one (show Kd.M (Kd.int .i64) _ _ _ 7 [.int .i64 7]from rfl) (Reps.one (show Kd.M (Kd.int .i64) _ _ _ 9 [.int .i64 9]from rfl) (Reps.one (show Kd.M (Kd.int .i64) _ _ _ 6 [.int .i64 6]from rfl) (Reps.one (show Kd.M (Kd.int .i64) _ _ _ 10 [.int .i64 10]from rfl) (Reps.one (show Kd.M (Kd.int .i64) _ _ _ 5 [.int .i64 5]from rfl) (Reps.one (show Kd.M (Kd.int .i64) _ _ _ 11 [.int .i64 11]from rfl) (Reps.one (show Kd.M (Kd.int .i64) _ _ _ 4 [.int .i64 4]from rfl) (Reps.one (show Kd.M (Kd.int .i64) _ _ _ 12 [.int .i64 12]from rfl) (Reps.one (show Kd.M (Kd.int .i64) _ _ _ 3 [.int .i64 3]from rfl) (Reps.one (show Kd.M (Kd.int .i64) _ _ _ 13 [.int .i64 13]from rfl) (Reps.one (show Kd.M (Kd.int .i64) _ _ _ 2 [.int .i64 2]from rfl) (Reps.one (show Kd.M (Kd.int .i64) _ _ _ 14 [.int .i64 14]from rfl) (Reps.one (show Kd.M (Kd.int .i64) _ _ _ 1 [.int .i64 1]from rfl) (Reps.one (show Kd.M (Kd.int .i64) _ _ _ 15 [.int .i64 15]from rfl) (Reps.none _ _)))))))))))))))))))));intro cQ w1 ho2 hb hg_ hnew_;clear hg_ hnew_;(first|rw[← aI.out]at ho2|(simp only[Int.reduceToNat]at ho2;rw[← aI.out]at ho2));have bN:=aM (zb ho2 (zD hB));replace HB:=hS hb;clear hb ho2));go_ret;exact⟨_,eE,zA bN.out,hB⟩
def impl_writerOf.f (a0_0:ByteArray) (a0_1:Int):Option (ByteArray×Int):=if a0_0.size≤1000000000 then some (a0_0,a0_1)else none
theorem impl_writerOf.calls (a0_0:ByteArray) (a0_1:Int) (r1:ByteArray) (r2:Int) (w0 w:World) (hB:Below w0.heap.size w0 w) (h:impl_writerOf.f a0_0 a0_1=some (r1,r2)) :
 Calls Try.prog 39 #[.agg #[.string a0_0,.int .i64 a0_1]] w fun e w' => ∃ g_:Nat,e = .returned (.pointer (some ⟨g_,0,none⟩))∧IsS116 w0 w' g_ r1 r2∧Below w0.heap.size w0 w'∧Below w.heap.size w w':=by
 have HB:=aM hB;have HBW:=aM (zQ w.heap.size w);have HS:=aM hB.size;clear hB;unfold impl_writerOf.f at h
 by_cases hl:a0_0.size≤1000000000
 · rw[if_pos hl]at h;simp only[zL,zM]at h;obtain⟨rfl,rfl⟩:=h;go_enter Try.func39,Try.ntmps39
   go_wp2_with (first|(refine bE 1 #[.string a0_0,.int .i64 a0_1] 27 ?_;intro gb hg w1 hbox hb;have HB1:=aM (below_step HB.out hb);have HBW1:=aM (below_step HBW.out hb);have BK:=aM hbox;clear hb hbox hg;obtain⟨hcz0,hcz1⟩:=blk_c2 BK.out)|((with_reducible refine gD 5 ?_);refine Kd.B_conv ?hg (N:=5) ?hd rfl Try.underlying9 Try.underlying36 Try.underlying5 (s:=a0_0) rfl (by omega) (ok:=fun k_=>w.heap.size≤k_) (zD HBW1.out) ?_;(case hd=>rfl);(case hg=>rfl);intro v1 w2 ho hb _ hat;clear hat;obtain⟨rb,c,hv,h2,h3,h4,h5⟩:=ho;rw[Go.Proofs.Ytldiiicbgdfapaa.HandKit.bytesOf_len]at hv;subst hv;have RW:=aM h5;have RG:=aM h3;have BK2:=aM (blk_below (g:=gb) (o:=.cells #[.string a0_0,.int .i64 a0_1] 27 (0,0)) BK.out hb);have HB2:=aM (below_step HB1.out hb);have HBW2:=aM (below_step HBW1.out hb);clear h2 h3 h4 h5 hb hcz0 hcz1;obtain⟨hcz0,hcz1⟩:=blk_c2 BK2.out)|(refine bE 9 #[.slice (some ⟨rb,0,none⟩) a0_0.size c,.int .i64 a0_1] 116 ?_;intro gw hg w3 hbox hb;have HB3:=aM (below_step HB2.out hb);have HBW3:=aM (below_step HBW2.out hb);have RW3:=aM (RW.out.below hb RW.out.lt);have BW:=aM hbox;have GE:=aM (show w.heap.size≤gw by rw[hg];exact zD HBW2.out);clear hb hbox hg));go_ret;exact⟨gw,rfl,⟨rb,c,BW.out,za HS.out GE.out,za HS.out RG.out,RW3.out⟩,HB3.out,HBW3.out⟩
 · rw[if_neg hl]at h;cases h
def impl_writer_bit.f (s0_0:ByteArray) (s0_1:Int) (a1:Int):Option (ByteArray×Int):=if 0≤s0_1∧(s0_1+7) / 8=s0_0.size∧s0_0.size≤1000000000 then some (putBit s0_0 s0_1 a1,s0_1+1)else none
theorem impl_writer_bit.bd (s:ByteArray):∀ x∈bytesOf s,0≤x∧x<256:=by
  intro x hx
  unfold bytesOf at hx
  obtain⟨b,_,rfl⟩:=List.mem_map.mp hx
  have:=b.toNat_lt
  omega
theorem impl_writer_bit.orb (a b:Int):0≤Go.bits .or .u8 a b∧Go.bits .or .u8 a b<256:=by
  unfold Go.bits
  simp only[IntKind.wrap,IntKind.signed,IntKind.bits,Bool.false_and,Bool.false_eq_true,if_false]
  omega
theorem impl_writer_bit.size (xs:List Int):(strOfNums xs).size=xs.length:=by
  show(strOfNums xs).data.size=_
  simp[strOfNums]
theorem impl_writer_bit.back (xs:List Int) (h:∀ x∈xs,0≤x∧x<256):bytesOf (strOfNums xs)=xs:=by
  unfold bytesOf strOfNums
  simp only[List.toList_toArray,List.map_map]
  rw[List.map_congr_left (g:=id) (fun x hx=>?_)]
  · simp
  · obtain⟨h1,h2⟩:=h x hx
    simp only[Function.comp,id]
    rw[UInt8.toNat_ofNat']
    omega
theorem impl_writer_bit.calls (g:Nat) (s0_0:ByteArray) (s0_1:Int) (a1:Int) (r1:ByteArray) (r2:Int) (w0 w:World) (hI:IsS116 w0 w g s0_0 s0_1) (hB:Below w0.heap.size w0 w) (h:impl_writer_bit.f s0_0 s0_1 a1=some (r1,r2)) :
 Calls Try.prog 79 #[.pointer (some ⟨g,0,none⟩),.int .i64 a1] w fun e w'=>e = .returned (.tuple #[])∧IsS116 w0 w' g r1 r2∧Below w0.heap.size w0 w'∧KeepW w0.heap.size w w' g none:=by
 have HB:=aM hB;have HI:=aM hI;have HS:=aM hB.size;clear hB hI;unfold impl_writer_bit.f at h
 by_cases hl:0≤s0_1∧(s0_1+7) / 8=s0_0.size∧s0_0.size≤1000000000
 · rw[if_pos hl]at h;simp only[zL,zM]at h;obtain⟨rfl,rfl⟩:=h;obtain⟨hl0,hl1,hl2⟩:=hl;obtain⟨n,rfl⟩:=Int.eq_ofNat_of_zero_le hl0;clear hl0;have hn:=aM (show(n+7) / 8=s0_0.size by omega);have hsz:=aM hl2;clear hl1 hl2;obtain⟨rb,c,hb,h1,h2,h3⟩:=HI.out;have hgr:=aM (show g≠rb by
    rintro rfl;obtain⟨cs,mk,hx,_⟩:=h3
    rw[hx]at hb
    injection hb with hb
    injection hb with _ hb;exact absurd hb (by decide))
   obtain⟨hc0,hc1⟩:=blk_c2 hb;obtain⟨hf0,hf1⟩:=blk_f2 hb;have BK:=aM hb;have RW:=aM h3;have RG:=aM h2;have GG:=aM h1;have hlen:=aM (Go.Proofs.Ytldiiicbgdfapaa.HandKit.bytesOf_len s0_0);clear hb h1 h2 h3;go_enter Try.func79,Try.ntmps79
   go_upto_if 9 with (fail)
   go_cut [] (fun wc => ∃ (rb1 c1:Nat) (ys:List Int),Aside0 (ys=(if(n:Int) % 8=0 then bytesOf s0_0++[0]else bytesOf s0_0))∧Aside0 (wc.heap[g]? = some (.cells #[.slice (some ⟨rb1,0,none⟩) ys.length c1,.int .i64 (n:Int)] 116 (0,0)))∧Aside0 (w0.heap.size≤rb1)∧Aside0 (Go.Proofs.Ytldiiicbgdfapaa.HandKit.BytesRow wc 5 rb1 c1 ys)∧Aside0 (KeepW w0.heap.size w wc g none)∧Aside0 (Below w0.heap.size w0 wc))
   case first =>
    by_cases hz:n % 8=0
    · have hz1:(((n:Int) % 8) == 0)=true:=zT.mpr (by omega);have hz2:((Int.tmod (n:Int) 8) == 0)=true:=by rw[Int.tmod_eq_emod_of_nonneg (by omega)];exact hz1
      have HZ:=aM hz;clear hz
      (try rw[hz1])
      go_wp2_with (first|((with_reducible refine gate_builtin (b:=.append) (xs:=#[.tmp 14,.tmp 15]) rfl ?_);at_builtin;refine B_append1 (w0:=w0) w0.heap.size rfl (.tmp 14) (.tmp 15) 36 5 (.int .u8 0) 1 rfl Try.underlying36 info5 rfl (by decide) (.slice (some ⟨rb,0,none⟩) s0_0.size c) (bytesOf s0_0) 0 (fun k_=>w0.heap.size≤k_) rfl rfl (fun k_ hk_=>za HS.out hk_) ?aO ?aB HS.out ?aL ?_;(case aO=>exact⟨rb,c,by rw[hlen.out],RG.out,RG.out,by rw[hlen.out];have:=hsz.out;omega,RW.out⟩);(case aB=>exact HB.out);(case aL=>rw[hlen.out];have:=hsz.out;omega);intro v1 w1 ho hb1 hg hat;clear hat;obtain⟨rb1,c1,hv,h2,h3,h4,h5⟩:=ho;subst hv;have BK1:=aM ((hg.block g (blk_lt BK.out) (by simp only[Value.ownBlock];intro e_;injection e_ with e_;exact hgr.out e_)).trans BK.out);have KW1:=aM (show KeepW w0.heap.size w w1 g none from⟨hg.size,fun i hi _ hn_=>hg.block i hi (by simp only[Value.ownBlock];intro e_;injection e_ with e_;subst e_;rcases hn_ with hn_|hn_;exact absurd hn_ (Nat.not_lt.2 RG.out);exact hn_ (by obtain⟨cs,mk,hx,_⟩:=RW.out;exact⟨cs,mk,hx⟩))⟩);have HB1:=aM hb1;have RG1:=aM h2;have RW1:=aM h5;clear hb1 hg h2 h3 h4 h5 hc0 hc1 hf0 hf1;obtain⟨hc0,hc1⟩:=blk_c2 BK1.out;obtain⟨hf0,hf1⟩:=blk_f2 BK1.out));go_meet
      case rel=>exact⟨rb1,c1,bytesOf s0_0++[0],⟨by rw[if_pos (by have:=HZ.out;omega)]⟩,⟨by simpa using blk_set BK1.out 0 _⟩,RG1,⟨RW1.out.keep (Below.heap_setCell _ _ _ _ (by rintro rfl;obtain⟨cs,mk,hx,_⟩:=RW1.out;rw[hx]at BK1;injection BK1.out with hq;injection hq with _ hq;exact absurd hq (by decide)))⟩,⟨KW1.out.set_ _ _⟩,⟨below_set HB1.out GG.out⟩⟩
    · have hz1:(((n:Int) % 8) == 0)=false:=zK.mpr (by omega);have hz2:((Int.tmod (n:Int) 8) == 0)=false:=by rw[Int.tmod_eq_emod_of_nonneg (by omega)];exact hz1
      have HZ:=aM hz;clear hz
      (try rw[hz1]);go_wp2;go_meet
      case rel=>exact⟨rb,c,bytesOf s0_0,⟨by rw[if_neg (by have:=HZ.out;omega)]⟩,⟨by rw[hlen.out];exact BK.out⟩,RG,RW,⟨KeepW.refl w g none⟩,HB⟩
   case rest =>
    clear hc0 hc1 hf0 hf1 BK RW RG;obtain⟨rb1,c1,ys,HY,BK,RG,RW,KW,HBc⟩:=hcut;have hin:=aM (show n / 8<ys.length by
     have h1:=hn.out;have h2:=hlen.out
     rw[HY.out]
     split
     · rw[List.length_append,h2];simp only[List.length_singleton];omega
     · rw[h2];omega)
    obtain⟨q,hq⟩:∃ q:Nat,q=n / 8:=⟨_,rfl⟩;have HQ:=aM hq;have hw:=show wrap64 ((n:Int) / 8)=(q:Int)by have h1:=hn.out;have h2:=hsz.out;unfold wrap64;omega
    have hq2:=zB (show(q:Int)<(ys.length:Int)by have:=hin.out;omega);obtain⟨m,hm⟩:∃ m:Nat,m=n % 8:=⟨_,rfl⟩;have HM:=aM hm;have hw2:=show Int.tmod (n:Int) 8=(m:Int)by rw[Int.tmod_eq_emod_of_nonneg (by omega)];omega
    clear hm;have hcx:=RW.out.cell q (by rw[hq];exact hin.out);have hfx:=RW.out.free q (by have h1:=RW.out.len;have h2:=hin.out;rw[hq];omega);clear hq;obtain⟨hc0,hc1⟩:=blk_c2 BK.out;obtain⟨hf0,hf1⟩:=blk_f2 BK.out
    try go_wp2
    refine start_ (n:=23) (S:=fun w'=>w'.cell? ⟨g,0,none⟩=some (.slice (some ⟨rb1,0,none⟩) ys.length c1)∧w'.cell? ⟨g,1,none⟩=some (.int .i64 (n:Int))∧w'.cell? ⟨rb1,q,none⟩=some (.int .u8 (rd ys (q:Nat)))) (ds:=[22]) (bAr 23 0) (by kernel_rfl) rfl rfl ⟨hc0,hc1,hcx⟩ (fun hHeld=>?_)
    refine pX 0 19 (bAr 23 1) ?_
    refine pX 1 20 (bAr 23 3) ?_
    refine pX 2 21 (bAr 23 7) ?_
    refine tK 3 22 (bAr 23 15) ?_
    refine pX 4 23 (bAr 23 31) ?_
    refine pX 5 24 (bAr 23 63) ?_
    refine pX 6 25 (bAr 23 127) ?_
    refine tK 7 26 (bAr 23 255) ?_
    refine pX 8 27 (bAr 23 511) ?_
    refine pX 9 28 (bAr 23 1023) ?_
    refine tK 10 29 (bAr 23 2047) ?_
    refine pX 11 30 (bAr 23 4095) ?_
    refine pX 12 31 (bAr 23 8191) ?_
    refine pX 13 32 (bAr 23 16383) ?_
    refine pX 14 33 (bAr 23 32767) ?_
    refine pX 15 34 (bAr 23 65535) ?_
    refine pX 16 35 (bAr 23 131071) ?_
    refine tK 17 36 (bAr 23 262143) ?_
    refine pX 18 37 (bAr 23 524287) ?_
    refine pX 19 38 (bAr 23 1048575) ?_
    refine pX 20 39 (bAr 23 2097151) ?_
    refine pX 21 40 (bAr 23 4194303) ?_
    refine last_ (i:=22) (N:=none) (bAr 23 8388607) rfl rfl (by kernel_rfl) (by decide) (fun K hK=>?_)
    refine skip_ (w1:=?_) (by rfl) rfl ?_ ?_;rotate_left
    · go_simp
      rfl
    refine hK.out _ _ ?_;clear hK K
    refine done_ (by kernel_rfl) ?_;have hne:=aM (show rb1≠g by
     rintro rfl;obtain⟨cs,mk,hx,_⟩:=RW.out;have hb:=BK.out
     rw[hx]at hb
     injection hb with hb
     injection hb with _ hb;exact absurd hb (by decide))
    have hne1:=hne.out;have hne2:=hne.out.symm;have hcd:=show wrap64 ((n:Int)+1)=(n:Int)+1 by have h1:=hn.out;have h2:=hsz.out;unfold wrap64;omega
    go_wp2
    first|go_end0|((try simp only[Exit.inBlock,Exit.then]);refine bodyPost_ret (results_none rfl _ _ _) rfl ?_)
    have hy:putBit s0_0 (n:Int) a1=strOfNums (ys.set q (Go.bits .or .u8 (rd ys q) (Go.bits .and .i64 a1 1 % 256*2 ^ min m 8 % 256))):=by
     unfold putBit putL
     rw[← HY.out];have h1:=HM.out;have h2:=HQ.out
     rw[show((n:Int) / 8).toNat=q by omega,show((n:Int) / 8)=(q:Int)by omega,show((n:Int) % 8).toNat=min m 8 by omega]
    have hbd:∀ x∈ys.set q (Go.bits .or .u8 (rd ys q) (Go.bits .and .i64 a1 1 % 256*2 ^ min m 8 % 256)),0≤x∧x<256:=by
     intro x hx;rcases List.mem_or_eq_of_mem_set hx with hx|rfl
     · rw[HY.out]at hx
       split at hx
       · rcases List.mem_append.mp hx with hx|hx
         · exact impl_writer_bit.bd _ x hx
         · simp at hx;subst hx;omega
       · exact impl_writer_bit.bd _ x hx
     · exact impl_writer_bit.orb _ _
    have hbs:=impl_writer_bit.back _ hbd;have hsz2:(putBit s0_0 (n:Int) a1).size=ys.length:=by rw[hy,impl_writer_bit.size,List.length_set]
    refine⟨rfl,⟨rb1,c1,?_,GG.out,RG.out,?_⟩,?_,?_⟩
    · rw[hsz2];have:=blk_set (blk_far BK.out (p:=⟨rb1,q,none⟩) hne2 (.int .u8 (Go.bits .or .u8 (rd ys q) (Go.bits .and .i64 a1 1 % 256*2 ^ min m 8 % 256)))) 1 (.int .i64 ((n:Int)+1))
      change (((wc.setCell ⟨rb1,q,none⟩ _).setCell ⟨g,1,none⟩ _).heap[g]? = _)
      simpa using this
    · rw[hy,hbs];exact(RW.out.set q (by rw[HQ.out];exact hin.out) _).keep (Below.heap_setCell _ _ _ _ hne1)
    · exact zy (below_set (below_set HBc.out RG.out) GG.out)
    · refine keepW_drew (KeepW.set_ ⟨?_,?_⟩ _ _)
      · simpa [World.setCell] using KW.out.1
      · intro i hi hig hr
        refine(Below.heap_setCell _ _ _ _ ?_).trans (KW.out.2 i hi hig hr)
        rintro rfl;rcases hr with hr|hr
        · exact absurd hr (Nat.not_lt.2 RG.out)
        · exact hr (BytB.congr (KW.out.2 _ hi hig (.inr hr)) (by obtain⟨cs,mk,hx,_⟩:=RW.out;exact⟨cs,mk,hx⟩))
 · rw[if_neg hl]at h;cases h
def impl_writer_bits.l0:Nat→Int→Int→Int→ByteArray→Int→Option (ByteArray×Int)
  | 0,_,_,_,_,_=>none
  | k+1,x1,x7,x8,x1000,x1001=>if x8<x7 then(if 0≤x8 then((impl_writer_bit.f x1000 x1001 (shr .i64 x1 x8)).bind fun bt711=>(impl_writer_bits.l0 k x1 x7 (wrap64 (x8+1)) bt711.1 bt711.2))else(none))else(some (x1000,x1001))
def impl_writer_bits.f (k:Nat) (s0_0:ByteArray) (s0_1:Int) (a1:Int) (a2:Int):Option (ByteArray×Int):=impl_writer_bits.l0 k a1 a2 0 s0_0 s0_1
theorem impl_writer_bits.calls (k:Nat) (g:Nat) (s0_0:ByteArray) (s0_1:Int) (a1:Int) (a2:Int) (r1:ByteArray) (r2:Int) (w0 w:World) (hI:IsS116 w0 w g s0_0 s0_1) (hB:Below w0.heap.size w0 w) (h:impl_writer_bits.f k s0_0 s0_1 a1 a2=some (r1,r2)) :
 Calls Try.prog 41 #[.pointer (some ⟨g,0,none⟩),.int .i64 a1,.int .i64 a2] w fun e w'=>e = .returned (.tuple #[])∧IsS116 w0 w' g r1 r2∧Below w0.heap.size w0 w'∧KeepW w0.heap.size w w' g none:=by
 have HI0:=aM hI;have HK:=aM (show KeepW w0.heap.size w w g none from KeepW.refl w g none);have HL:=aM hB.size;clear hI;have HW0:=aM hB.size;have HB:=aM hB;clear hB;have H:(impl_writer_bits.l0 k a1 a2 0 s0_0 s0_1)=some (r1,r2):=h;clear h;revert H;refine adR fun H'=>?_;go_enter Try.func41,Try.ntmps41;go_wp2
 go_loopg [8] k (fun kq v8 w' => ∃ (am:Int) (ah:ByteArray) (ai:Int),v8 = .int .i64 am∧Aside0 (impl_writer_bits.l0 kq a1 a2 am ah ai=some (r1,r2))∧Aside0 (kq≤k)∧Aside0 (IsS116 w0 w' g ah ai)∧Aside0 (KeepW w0.heap.size w w' g none)∧Aside0 (Below w0.heap.size w0 w'))
 case atStart=>exact⟨(0),(s0_0),(s0_1),eQ,H',⟨zI _⟩,⟨iA⟩,⟨(iK HK)⟩,⟨iC⟩⟩
 case round =>
  clear H';(try clear p2);obtain⟨am,ah,ai,rfl,HA,HK1,HI0,HK,HB⟩:=hrel;rcases gk with _|k1
  · exact absurd HA.out (by simp[impl_writer_bits.l0])
  revert HA;refine aoR ?_;intro H;simp only[impl_writer_bits.l0]at H;revert H
  refine iB (fun cq=>?_) (fun cq=>?_)
  · refine ifR fun c5=>?_;intro H;have bj:=zB c5;have cR:=zN c5;clear c5;obtain⟨ji6,aA⟩:∃ j_:Int,(shr .i64 a1 am)=j_:=⟨_,rfl⟩;replace H:((impl_writer_bit.f ah ai (ji6)).bind fun bt711=>(impl_writer_bits.l0 k1 a1 a2 (wrap64 (am+1)) bt711.1 bt711.2))=some (r1,r2):=by first|(rw[aA]at H;exact H)|(simp only[aA]at H ⊢;exact H)
    have hji6_:(a1 / 2 ^ min am.toNat 64)=ji6:=aA;have hji6z:am≤64→(a1 / 2 ^ am.toNat)=ji6:=shr_small aA;revert H;refine bdR fun⟨bO,bP⟩ A7=>?_;intro H
    try dsimp only at H
    revert H;refine adR fun H'=>?_
    go_wp2_with (first|((with_reducible refine gC 79 ?_);refine goesL_ (some 15) rfl rfl Try.func79 (by kernel_rfl) rfl #[.pointer (some ⟨g,0,none⟩),.int .i64 ji6] rfl (by(try simp only[zg,List.map_cons,List.map_nil]);first|done|(simp only[aA];rfl)|rfl|(simp only[zn,zd];rfl)) ?_;(with_reducible refine(impl_writer_bit.calls g ah ai ji6 bO bP w0 _ ?s1 ?s2 A7.out).mono ?_);(case s1=>exact iA);(case s2=>exact iC);rintro e w8 ⟨rfl,hi,hb,hk⟩;refine⟨_,rfl,?_⟩;replace HK:=aM (ZE (iK HK) hk (.inl rfl));replace HB:=aM hb;replace HI0:=aM hi;clear hb hk hi));go_roundg k1
    case measure=>have:=HK1.out;omega
    case rel=>exact⟨(wrap64 (am+1)),(bO),(bP),eQ,H',⟨by have:=HK1.out;omega⟩,⟨iA⟩,⟨(iK HK)⟩,⟨iC⟩⟩
  · intro H;simp only[zL,zM]at H;obtain⟨rfl,rfl⟩:=H;go_wp2
    first|go_end0|((try simp only[Exit.inBlock,Exit.then]);refine bodyPost_ret (results_none rfl _ _ _) rfl ?_)
    exact⟨eE,iA,iC,(iK HK)⟩
def impl_flag.f (a0:Bool):Option (Int):=if a0=true then(some 1)else(some 0)
theorem impl_flag.calls (a0:Bool) (r:Int) (w:World) (h:impl_flag.f a0=some r) :
 Calls Try.prog 78 #[.bool a0] w fun e w'=>e = .returned (.int .i64 r)∧Drawn0 w w':=by
 have H:(if a0=true then(some 1)else(some 0))=some r:=h;clear h;revert H
 refine bB (fun c2=>?_) (fun c2=>?_)
 · intro H;subst c2;obtain rfl:=zC H;go_enter Try.func78,Try.ntmps78;go_wp2;go_ret;exact⟨eQ,dQ⟩
 · intro H;subst c2;obtain rfl:=zC H;go_enter Try.func78,Try.ntmps78;go_wp2;go_ret;exact⟨eQ,dQ⟩
def impl_writer_head.f (k:Nat) (s0_0:ByteArray) (s0_1:Int) (a1:Bool) (a2:Int):Option (ByteArray×Int):=(impl_flag.f a1).bind fun ar=>((impl_writer_bits.f k s0_0 s0_1 ar 1).bind fun an=>((impl_writer_bits.f k an.1 an.2 a2 2).bind fun ao=>(some (ao.1,ao.2))))
theorem impl_writer_head.calls (k:Nat) (g:Nat) (s0_0:ByteArray) (s0_1:Int) (a1:Bool) (a2:Int) (r1:ByteArray) (r2:Int) (w0 w:World) (hI:IsS116 w0 w g s0_0 s0_1) (hB:Below w0.heap.size w0 w) (h:impl_writer_head.f k s0_0 s0_1 a1 a2=some (r1,r2)) :
 Calls Try.prog 40 #[.pointer (some ⟨g,0,none⟩),.bool a1,.int .i64 a2] w fun e w'=>e = .returned (.tuple #[])∧IsS116 w0 w' g r1 r2∧Below w0.heap.size w0 w'∧KeepW w0.heap.size w w' g none:=by
 have HI0:=aM hI;have HK:=aM (show KeepW w0.heap.size w w g none from KeepW.refl w g none);have HL:=aM hB.size;clear hI;have HW0:=aM hB.size;have HB:=aM hB;clear hB;have H:((impl_flag.f a1).bind fun ar=>((impl_writer_bits.f k s0_0 s0_1 ar 1).bind fun an=>((impl_writer_bits.f k an.1 an.2 a2 2).bind fun ao=>(some (ao.1,ao.2)))))=some (r1,r2):=h;clear h;revert H;refine bdR fun ar A4=>?_;refine bdR fun⟨bQ,bR⟩ A5=>?_;intro H
 try dsimp only at H
 revert H;refine bdR fun⟨cr,ct⟩ A6=>?_;intro H
 try dsimp only at H
 simp only[zL,zM]at H;obtain⟨rfl,rfl⟩:=H;go_enter Try.func40,Try.ntmps40
 go_wp2_with (first|(refine gL (some 8) Try.func78 #[.bool a1] ?_;(with_reducible refine(impl_flag.calls a1 ar _ A4.out).mono ?_);rintro e w' ⟨rfl,⟨nd,rfl⟩⟩;refine⟨_,rfl,?_⟩)|(refine gL (some 9) Try.func41 #[.pointer (some ⟨g,0,none⟩),.int .i64 ar,.int .i64 1] ?_;(with_reducible refine(impl_writer_bits.calls k g s0_0 s0_1 ar 1 bQ bR w0 _ ?s1 ?s2 A5.out).mono ?_);(case s1=>exact iA);(case s2=>exact iC);rintro e w7 ⟨rfl,hi,hb,hk⟩;refine⟨_,rfl,?_⟩;replace HK:=aM (ZE (iK HK) hk (.inl rfl));replace HB:=aM hb;replace HI0:=aM hi;clear hb hk hi)|(refine gL (some 12) Try.func41 #[.pointer (some ⟨g,0,none⟩),.int .i64 a2,.int .i64 2] ?_;(with_reducible refine(impl_writer_bits.calls k g bQ bR a2 2 cr ct w0 _ ?s1 ?s2 A6.out).mono ?_);(case s1=>exact iA);(case s2=>exact iC);rintro e w8 ⟨rfl,hi,hb,hk⟩;refine⟨_,rfl,?_⟩;replace HK:=aM (ZE (iK HK) hk (.inl rfl));replace HB:=aM hb;replace HI0:=aM hi;clear hb hk hi))
 first|go_end0|((try simp only[Exit.inBlock,Exit.then]);refine bodyPost_ret (results_none rfl _ _ _) rfl ?_)
 exact⟨eE,iA,iC,(iK HK)⟩
end Go.Proofs.Ytldiiicbgdfapaa.PFnExactWovenBlock
