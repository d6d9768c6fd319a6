/- Walks of functions that the law reaches: each call comes to what the Lean function of its name tells. -/
import Derived.Test.YtldiiicbgdfapaaPFnExactWovenBlockx0
namespace Go.Proofs.Ytldiiicbgdfapaa.PFnExactWovenBlock
open Go.RowKit Go.Proofs.YtldiiicbgdfapaaW.PrintWords Go.Proofs.YtldiiicbgdfapaaW.PrintLast Go.Proofs.YtldiiicbgdfapaaW.PrintMore
attribute [local go_sem] max2_int min2_int max_two min_two max_three min_three max_four min_four
set_option linter.unusedVariables false
set_option maxHeartbeats 8000000
set_option maxRecDepth 100000
set_option linter.unusedSimpArgs false
def laws_toOut.f (a0_0:ByteArray) (a0_1:Int):Option (ByteArray×Int):=some (a0_0,a0_1)
theorem laws_toOut.calls (a0_0:ByteArray) (a0_1:Int) (r1:ByteArray) (r2:Int) (w:World) (h:laws_toOut.f a0_0 a0_1=some (r1,r2)) :
 Calls Try.prog 8 #[.agg #[.string a0_0,.int .i64 a0_1]] w fun e w'=>e = .returned (.agg #[.string r1,.int .i64 r2])∧Below w.heap.size w w':=by
 have hu23:=Try.underlying23;have hu27:=Try.underlying27;have HB:=aM (zQ w.heap.size w);have H:(some (a0_0,a0_1))=some (r1,r2):=h;clear h;simp only[zL,zM]at H;obtain⟨rfl,rfl⟩:=H;go_enter Try.func8,Try.ntmps8
 go_wp2_with (first|(refine bE 1 #[.string a0_0,.int .i64 a0_1] 23 ?_;intro cX hg w2 hbox hb;have ae:=aM hbox;have bV:=aM (sZ hg);have cY:=bV;replace HB:=hS hb;clear hb hbox hg)|(refine bE 2 #[.string (⟨#[]⟩:ByteArray),.int .i64 0] 27 ?_;intro bX hg w3 hbox hb;have aq:=aM hbox;have bY:=aM (sZ hg);have cZ:=bY;replace HB:=hS hb;have aH:=aM (nL ae hg);have aI:=aM (nG ae hg);replace ae:=bW ae hb;clear hb hbox hg)|(refine bE 3 #[.string (⟨#[]⟩:ByteArray),.int .i64 0] 27 ?_;intro da hg w4 hbox hb;have bZ:=aM hbox;have b0:=aM (sZ hg);have db:=b0;replace HB:=hS hb;have aJ:=aM (nL ae hg);have aK:=aM (nG ae hg);replace ae:=bW ae hb;have aN:=aM (nL aq hg);have aQ:=aM (nG aq hg);replace aq:=bW aq hb;clear hb hbox hg;have cC:=aH.out;have cD:=aI.out;have cE:=aJ.out;have cF:=aK.out;have hz7:=bz2 ae;have cG:=aQ.out;have cH:=aN.out;have hz9:=bz2 bZ;have cI:=bz2 aq))
 refine bodyPost_ret (results_cell_row rfl _ _ bX 27 #[.string a0_0,.int .i64 a0_1] (0,0) _ rfl kB Try.underlying27 rfl (by kernel_rfl)) rfl ?_;exact⟨eE,hB⟩
def laws_toToken.f (a0_0:Int) (a0_1:Int) (a0_2:Int):Option (Int×Int×Int):=some (a0_0,a0_1,a0_2)
theorem laws_toToken.calls (a0_0:Int) (a0_1:Int) (a0_2:Int) (r1:Int) (r2:Int) (r3:Int) (w:World) (h:laws_toToken.f a0_0 a0_1 a0_2=some (r1,r2,r3)) :
 Calls Try.prog 31 #[.agg #[.int .i64 a0_0,.int .i64 a0_1,.int .i64 a0_2]] w fun e w'=>e = .returned (.agg #[.int .i64 r1,.int .i64 r2,.int .i64 r3])∧Below w.heap.size w w':=by
 have hu72:=Try.underlying72;have hu70:=Try.underlying70;have HB:=aM (zQ w.heap.size w);have H:(some (a0_0,a0_1,a0_2))=some (r1,r2,r3):=h;clear h;simp only[zL,zM]at H;obtain⟨rfl,rfl,rfl⟩:=H;go_enter Try.func31,Try.ntmps31
 go_wp2_with (first|(refine bE 1 #[.int .i64 a0_0,.int .i64 a0_1,.int .i64 a0_2] 72 ?_;intro dc hg w2 hbox hb;have af:=aM hbox;have b6:=aM (sZ hg);have dd:=b6;replace HB:=hS hb;clear hb hbox hg)|(refine bE 2 #[.int .i64 0,.int .i64 0,.int .i64 0] 70 ?_;intro b7 hg w3 hbox hb;have ar:=aM hbox;have b8:=aM (sZ hg);have de:=b8;replace HB:=hS hb;have aT:=aM (nL af hg);have aU:=aM (nG af hg);replace af:=bW af hb;clear hb hbox hg)|(refine bE 3 #[.int .i64 0,.int .i64 0,.int .i64 0] 70 ?_;intro df hg w4 hbox hb;have b9:=aM hbox;have ca:=aM (sZ hg);have dg:=ca;replace HB:=hS hb;have aV:=aM (nL af hg);have aW:=aM (nG af hg);replace af:=bW af hb;have aX:=aM (nL ar hg);have aY:=aM (nG ar hg);replace ar:=bW ar hb;clear hb hbox hg;have cC:=aT.out;have cD:=aU.out;have cE:=aV.out;have cF:=aW.out;have hz7:=bz3 af;have cG:=aY.out;have cH:=aX.out;have hz9:=bz3 b9;have cI:=bz3 ar))
 refine bodyPost_ret (results_cell_row rfl _ _ b7 70 #[.int .i64 a0_0,.int .i64 a0_1,.int .i64 a0_2] (0,0) _ rfl kB Try.underlying70 rfl (by kernel_rfl)) rfl ?_;exact⟨eE,hB⟩
def laws_toTokenS.l0:Nat→List (S72)→List (S70)→Int→Option ((List (S70)))
  | 0,_,_,_=>none
  | k+1,x0,x3,x4=>if x4<(x0.length:Int)then(if 0≤x4 then((laws_toToken.f ((rd_T72 x0 x4).f0) ((rd_T72 x0 x4).f1) ((rd_T72 x0 x4).f2)).bind fun bt551=>(if x4<(x3.length:Int)then(laws_toTokenS.l0 k x0 (x3.set (x4:Int).toNat (⟨bt551.1,bt551.2.1,bt551.2.2⟩:S70)) (wrap64 (x4+1)))else(none)))else(none))else(some x3)
def laws_toTokenS.f (k:Nat) (l0:List (S72)):Option ((List (S70))):=if 0≤(l0.length:Int)then(if((l0.length:Int):Int).toNat≤11728124029610 then(laws_toTokenS.l0 k l0 (List.replicate ((l0.length:Int):Int).toNat z70) 0)else(none))else(none)
theorem laws_toTokenS.calls (k:Nat) (A0:Option Addr) (c0:Nat) (l0:List (S72)) (r:List (S70)) (w:World) (hr0:Kd.C k72 w A0 l0.length l0) (hc0:l0.length≤c0) (h:laws_toTokenS.f k l0=some r) :
 Calls Try.prog 9 #[.slice A0 l0.length c0] w fun e w' => ∃ v0_:Value,e = .returned (v0_)∧Kd.R k70 70 w' w.heap.size (fun _=>True) v0_ r∧Below w.heap.size w w':=by
 have hu72:=Try.underlying72;have hu70:=Try.underlying70;have HR0:=aM hr0;have HC0:=aM hc0;clear hr0 hc0;have HB:=aM (zQ w.heap.size w);have H:(if 0≤(l0.length:Int)then(if((l0.length:Int):Int).toNat≤11728124029610 then(laws_toTokenS.l0 k l0 (List.replicate ((l0.length:Int):Int).toNat z70) 0)else(none))else(none))=some r:=h;clear h;revert H;refine ifR fun c2=>?_;intro H;have aw:=zB c2;have bz:=zN c2;clear c2;revert H;refine ifR fun c3=>?_;intro H;have bj:=zB c3;have cJ:=zN c3;clear c3;obtain⟨cd,hy_⟩:∃ y_:List (S70),y_=(List.replicate ((l0.length:Int):Int).toNat z70):=⟨_,rfl⟩;replace H:(laws_toTokenS.l0 k l0 cd 0)=some r:=nH;have bq:=aM hy_;clear hy_;revert H;refine adR fun H'=>?_;go_enter Try.func9,Try.ntmps9
 go_wp2_with (first|((with_reducible refine gD 7 ?_);refine Kd.R_make k70 _ 70 rfl (N:=7) rfl 31 _ _ rfl (l0.length:Int) rfl rfl Try.underlying31 (.agg #[(.int .i64 0),(.int .i64 0),(.int .i64 0)]) 24 info70 rfl (by decide) (by omega) z70 (ok:=fun _=>True) (okp:=fun _=>True) (k70_mkM _ _ _ z70) (fun _ hk=>hk) trivial (bD) (za (Nat.mul_le_mul_right _ (bD:(l0.length:Int).toNat≤11728124029610)) (by omega)) (zQ _ _) (zI _) ?_;intro cK w4 ho5 hb hg_ hnew_;clear hg_ hnew_;(first|rw[← bq.out]at ho5|(simp only[Int.reduceToNat]at ho5;rw[← bq.out]at ho5));have ce:=aM (zb ho5 (zD hB));replace HB:=hS hb;clear hb ho5))
 go_loopg [4] k (fun kq v4 w' => ∃ (ak:List (S70)) (aa:Int),v4 = .int .i64 aa∧Aside0 (laws_toTokenS.l0 kq l0 ak aa=some r)∧Aside0 (kq≤k)∧Aside0 (Kd.R k70 70 w' w.heap.size (fun _=>True) cK ak)∧Aside0 (Below w.heap.size w w'))
 case atStart=>exact⟨(cd),(0),eQ,H',⟨zI _⟩,⟨zA ce.out⟩,⟨hB⟩⟩
 case round =>
  clear H';(try clear c2);(try clear aw);(try clear bz);(try clear p2);(try clear c3);(try clear bj);(try clear cJ);obtain⟨ak,aa,rfl,HA,HK1,ao,HB⟩:=hrel;rcases gk with _|k1
  · exact absurd HA.out (by simp[laws_toTokenS.l0])
  revert HA;refine aoR ?_;intro H;simp only[laws_toTokenS.l0]at H;revert H
  refine iB (fun cg=>?_) (fun cg=>?_)
  · refine iR fun cL=>?_;refine bdR fun⟨aZ,bb,be⟩ A8=>?_;intro H
    try dsimp only at H
    revert H;refine iR fun cM=>?_;intro H;obtain⟨bA,hy_⟩:∃ y_:List (S70),y_=(ak.set (aa:Int).toNat (⟨aZ,bb,be⟩:S70)):=⟨_,rfl⟩;replace H:(laws_toTokenS.l0 k1 l0 bA (wrap64 (aa+1)))=some r:=nH;have ch:=aM hy_;clear hy_;revert H;refine adR fun H'=>?_;have bF:0≤(aa:Int):=bD;have bG:aa<(l0.length:Int):=bD;obtain⟨dh,cN,aC,aD,aG⟩:=at_T72 HR0.out aa bF bG;cases cN;replace aC:=cB0 HB aC;replace aD:=cB0 HB aD;replace aG:=cB0 HB aG;replace bF:=zB bF;replace bG:=zB bG
    go_wp2_with (first|(refine gL (some 20) Try.func31 #[.agg #[.int .i64 ((rd_T72 l0 aa).f0),.int .i64 ((rd_T72 l0 aa).f1),.int .i64 ((rd_T72 l0 aa).f2)]] ?_;(with_reducible refine(laws_toToken.calls ((rd_T72 l0 aa).f0) ((rd_T72 l0 aa).f1) ((rd_T72 l0 aa).f2) aZ bb be _ A8.out).mono ?_);rintro e w11 ⟨rfl,hb⟩;refine⟨_,rfl,?_⟩;replace ao:=Kd.wR ao hb;replace HB:=hS hb;clear hb;have p10:0≤(aa:Int):=bD;have q10:(aa:Int)<((ak.length:Int):Int):=bD;obtain⟨go10,ci,cj,ck,gl10,cl10,HG10⟩:=Kd.R_form ao.out (by omega);(first|cases cj|(injection cj with ea_ en_ ec_;(first|subst ea_|(injection ea_ with ea_;subst ea_));subst ec_;clear en_));have bH:=aM ck;have dv:=aM HG10;clear ck gl10 HG10;obtain⟨ce10,hcl10,hM10,hcc10,hfr10⟩:=Kd.R_elem ao.out z70 (aa:Int) p10 q10;obtain rfl:=k70_openM hM10;have cO:w11.cell? ⟨go10,(aa:Int).toNat*3,none⟩=some (.int .i64 ((rd_T70 ak aa).f0)):=hcc10 0 _ rfl;have cP:w11.cell? ⟨go10,(aa:Int).toNat*3+1,none⟩=some (.int .i64 ((rd_T70 ak aa).f1)):=hcc10 1 _ rfl;have cQ:w11.cell? ⟨go10,(aa:Int).toNat*3+2,none⟩=some (.int .i64 ((rd_T70 ak aa).f2)):=hcc10 2 _ rfl;have cR:w11.frozen? ⟨go10,(aa:Int).toNat*3,none⟩=false:=hfr10 0;have cS:w11.frozen? ⟨go10,(aa:Int).toNat*3+1,none⟩=false:=hfr10 1;have cT:w11.frozen? ⟨go10,(aa:Int).toNat*3+2,none⟩=false:=hfr10 2;clear hcl10 hcc10 hfr10 hM10;replace p10:=zB p10;replace q10:=zB q10;have HX12:=aM (show Kd.R k70 70 w11 w.heap.size (fun _=>True) (.slice (some ⟨go10,0,none⟩) ak.length ci) ak from(zA ao.out));obtain⟨ce12,hcl12,hM12,hcc12,hfr12⟩:=Kd.R_elem HX12.out z70 (aa:Int) (bD) (by have h_:(aa:Int)<((ak.length:Int):Int):=bD;first|exact h_|(have e_:=(zJ ao.out).1;omega)|simpa using h_);obtain rfl:=k70_openM hM12;have bJ:=Kd.R_seg HX12.out (aa:Int) (bD) (by have h_:(aa:Int)<((ak.length:Int):Int):=bD;first|exact h_|(have e_:=(zJ ao.out).1;omega)|simpa using h_) (seg:=[.int .i64 aZ,.int .i64 bb,.int .i64 be]) (j:=0) hcl12 hcc12 (show 3≤3 from by decide) (x':=(⟨aZ,bb,be⟩:S70)) (k70_mkM _ _ _ (⟨aZ,bb,be⟩:S70)) (fun _ hk=>hk);have bK:=hcc12 0 _ rfl;(try simp only[show(k70).sz=3 from rfl,Nat.mul_one,Nat.add_zero]at bK);have bM:=hfr12 0;(try simp only[show(k70).sz=3 from rfl,Nat.mul_one,Nat.add_zero]at bM);have bN:=hcc12 1 _ rfl;(try simp only[show(k70).sz=3 from rfl,Nat.mul_one,Nat.add_zero]at bN);have bO:=hfr12 1;(try simp only[show(k70).sz=3 from rfl,Nat.mul_one,Nat.add_zero]at bO);have bP:=hcc12 2 _ rfl;(try simp only[show(k70).sz=3 from rfl,Nat.mul_one,Nat.add_zero]at bP);have bQ:=hfr12 2;(try simp only[show(k70).sz=3 from rfl,Nat.mul_one,Nat.add_zero]at bQ);clear hcl12 hcc12 hfr12 hM12)|((with_reducible refine gate_store (t:=70) (p:=21) rfl ?_);refine store_event (t:=70) (p:=21) (v:=?vo_w13) (w1:=(((w11.setCell ⟨go10,(aa:Int).toNat*3,none⟩ (.int .i64 aZ)).setCell ⟨go10,(aa:Int).toNat*3+1,none⟩ (.int .i64 bb)).setCell ⟨go10,(aa:Int).toNat*3+2,none⟩ (.int .i64 be))) ?hg ?ho ?hn ?hr ?_;(case ho=>rfl);(case hg=>rfl);(case hn=>rfl);(case hr=>first|(go_simp;done)|(go_simp;rfl));intro w13 hw;have hg:w11.grownBy w13 (some go10):=(by rw[hw];exact bJ.2);have hp_:Kd.R k70 70 w13 w.heap.size (fun _=>True) (.slice (some ⟨go10,0,none⟩) ak.length ci) bA:=(by rw[hw,ch.out];exact bJ.1);clear bJ;replace ao:=aM hp_;replace HB:=aM ((by rw[hw];exact below_set (below_set (below_set (HB.out) bH.out) bH.out) bH.out:Below w.heap.size w w13));clear hg hw hp_));go_roundg k1
    case measure=>have:=HK1.out;omega
    case rel=>exact⟨(bA),(wrap64 (aa+1)),eQ,H',⟨by have:=HK1.out;omega⟩,⟨zA ao.out⟩,⟨hB⟩⟩
  · intro H;obtain rfl:=zC H;go_wp2;go_ret;exact⟨_,eE,zA ao.out,hB⟩
def impl_trimmed.l0:Nat→List Int→Int→Int→Option (List Int)
  | 0,_,_,_=>none
  | k+1,x0,x1,x5=>if x5>x1 then(if 0≤(wrap64 (x5-1))then(if(wrap64 (x5-1))<(x0.length:Int)then(if(rd x0 (wrap64 (x5-1)))=0 then(impl_trimmed.l0 k x0 x1 (wrap64 (x5-1)))else(if 0≤x5 then(if x5≤(x0.length:Int)then(some (x0.take (x5:Int).toNat))else(none))else(none)))else(none))else(none))else(if 0≤x5 then(if x5≤(x0.length:Int)then(some (x0.take (x5:Int).toNat))else(none))else(none))
def impl_trimmed.f (k:Nat) (l0:List Int) (a1:Int):Option (List Int):=impl_trimmed.l0 k l0 a1 (l0.length:Int)
theorem impl_trimmed.calls (k:Nat) (P0_:Nat→Prop) (u9000_:Value) (l0:List Int) (a1:Int) (r:List Int) (w0 w:World) (hB:Below w0.heap.size w0 w) (ho0:Kd.R (Kd.int .i64) 3 w w0.heap.size P0_ u9000_ l0) (h:impl_trimmed.f k l0 a1=some r) :
 Calls Try.prog 38 #[u9000_,.int .i64 a1] w fun e w' => ∃ v0_:Value,e = .returned (v0_)∧Kd.R (Kd.int .i64) 3 w' w0.heap.size (fun k_=>(P0_ k_∨w.heap.size≤k_)) v0_ r∧Below w0.heap.size w0 w'∧Kept w w' (fun k_=>P0_ k_):=by
 have HO0:=aM (show Kd.R (Kd.int .i64) 3 w w0.heap.size (fun k_=>(P0_ k_∨w.heap.size≤k_)) u9000_ l0 from zH ho0 (fun k_ hk=>(.inl hk)));have HK:=aM (Kept.refl w (fun k_=>P0_ k_));have HW0:=aM hB.size;have HB:=aM hB;clear hB;have H:(impl_trimmed.l0 k l0 a1 (l0.length:Int))=some r:=h;clear h;revert H;refine adR fun H'=>?_;obtain⟨Ao3,co3,eo3⟩:=zY HO0.out;subst eo3;go_enter Try.func38,Try.ntmps38;go_wp2
 go_loopg [5] k (fun kq v5 w' => ∃ (ac:Int),v5 = .int .i64 ac∧Aside0 (impl_trimmed.l0 kq l0 a1 ac=some r)∧Aside0 (kq≤k)∧Aside0 (Kd.R (Kd.int .i64) 3 w' w0.heap.size (fun k_=>(P0_ k_∨w.heap.size≤k_)) (.slice Ao3 l0.length co3) l0)∧Aside0 (Kept w w' (fun k_=>P0_ k_))∧Aside0 (Below w0.heap.size w0 w'))
 case atStart=>exact⟨((l0.length:Int)),eQ,H',⟨zI _⟩,⟨zA HO0.out⟩,⟨by repeat (first|(with_reducible first|exact HK.out|apply Kept.alloc|apply Kept.drewN|apply Kept.drew)|exact HK.out)⟩,⟨hB⟩⟩
 case round =>
  clear H';(try clear p2);(try clear c3);obtain⟨ac,rfl,HA,HK1,ap,HK,HB⟩:=hrel;rcases gk with _|k1
  · exact absurd HA.out (by simp[impl_trimmed.l0])
  revert HA;refine aoR ?_;intro H;simp only[impl_trimmed.l0]at H;revert H
  refine iB (fun am=>?_) (fun am=>?_)
  · intro H;obtain⟨ji5,an⟩:∃ j_:Int,(wrap64 (ac-1))=j_:=⟨_,rfl⟩;replace H:(if 0≤(ji5)then(if(ji5)<(l0.length:Int)then(if(rd l0 (ji5))=0 then(impl_trimmed.l0 k1 l0 a1 ji5)else(if 0≤ac then(if ac≤(l0.length:Int)then(some (l0.take (ac:Int).toNat))else(none))else(none)))else(none))else(none))=some r:=by first|(rw[an]at H;exact H)|(simp only[an]at H ⊢;exact H)
    have di:(IntKind.i64.wrap (ac-1))=ji5:=(i64_w _).trans an;revert H;refine iR fun cg=>?_;refine iR fun cL=>?_;intro H;revert H
    refine iQ (fun cU cW=>?_) (fun c8 cU cW=>?_)
    · refine adR fun H'=>?_;have ax:0≤((ji5):Int):=bD;have ay:(ji5)<(l0.length:Int):=bD;obtain⟨br,bR,bk⟩:=zV (zJ ap.out).2.2 (ji5) ax ay;cases bR;replace ax:=zB ax;replace ay:=zB ay;go_wp2;go_roundg k1
      case measure=>have:=HK1.out;omega
      case rel=>exact⟨(ji5),(by first|rfl|(simp;done)|(simp only[← an] <;> (first|rfl|simp))|(simp[*];done)),H',⟨by have:=HK1.out;omega⟩,⟨zA ap.out⟩,⟨by repeat (first|(with_reducible first|exact HK.out|apply Kept.alloc|apply Kept.drewN|apply Kept.drew)|exact HK.out)⟩,⟨hB⟩⟩
    · refine ifR fun c9=>?_;intro H;have cM:=zB c9;have dw:=zN c9;clear c9;revert H;refine ifR fun c10=>?_;intro H;have bu:=zB c10;have bv:=zN c10;clear c10;obtain⟨cl,hy_⟩:∃ y_:List Int,y_=(l0.take (ac:Int).toNat):=⟨_,rfl⟩;replace H:(some cl)=some r:=nH;have bw:=aM hy_;clear hy_;obtain rfl:=zC H;have ax:0≤((ji5):Int):=bD;have ay:(ji5)<(l0.length:Int):=bD;obtain⟨br,bR,bk⟩:=zV (zJ ap.out).2.2 (ji5) ax ay;cases bR;replace ax:=zB ax;replace ay:=zB ay;have q11:(ac:Int)≤((l0.length:Int):Int):=bD;obtain⟨i011,hi011,_,hsz11,_⟩:=info_parts info3;have hcut11:=cut_to (P:=Try.prog) 45 3 .i64 Try.underlying45 hi011 (some br) l0.length co3 ac (bD) q11 (zJ ap.out).2.1;have hr11:=Kd.R_take (m:=(ac:Int).toNat) ap.out (by omega);have hy11:cl.length=(ac:Int).toNat:=(by rw[bw.out,zd];omega)
      rw[← bw.out]at hr11
      rw[← hy11]at hr11 hcut11;clear hy11 hi011 hsz11 ap;have cm:=aM hr11;clear hr11;replace q11:=zB q11;go_wp2;go_ret;exact⟨_,by first|rfl|(simp[errW_none,errW_some] <;> rfl)|(simp only[← an];first|rfl|(simp[errW_none,errW_some] <;> rfl))|(simp[*,errW_none,errW_some] <;> rfl),zA cm.out,hB,by repeat (first|(with_reducible first|exact HK.out|apply Kept.alloc|apply Kept.drewN|apply Kept.drew)|exact HK.out)⟩
  · refine ifR fun c12=>?_;intro H;have dl:=zB c12;have dm:=zN c12;clear c12;revert H;refine ifR fun c13=>?_;intro H;have dn:=zB c13;have dp:=zN c13;clear c13;obtain⟨cn,hy_⟩:∃ y_:List Int,y_=(l0.take (ac:Int).toNat):=⟨_,rfl⟩;replace H:(some cn)=some r:=nH;have bx:=aM hy_;clear hy_;obtain rfl:=zC H;have q14:(ac:Int)≤((l0.length:Int):Int):=bD;obtain⟨i014,hi014,_,hsz14,_⟩:=info_parts info3;have hcut14:=cut_to (P:=Try.prog) 45 3 .i64 Try.underlying45 hi014 Ao3 l0.length co3 ac (bD) q14 (zJ ap.out).2.1;have hr14:=Kd.R_take (m:=(ac:Int).toNat) ap.out (by omega);have hy14:cn.length=(ac:Int).toNat:=(by rw[bx.out,zd];omega)
    rw[← bx.out]at hr14
    rw[← hy14]at hr14 hcut14;clear hy14 hi014 hsz14 ap;have cp:=aM hr14;clear hr14;replace q14:=zB q14;go_wp2;go_ret;exact⟨_,eE,zA cp.out,hB,by repeat (first|(with_reducible first|exact HK.out|apply Kept.alloc|apply Kept.drewN|apply Kept.drew)|exact HK.out)⟩
def impl_within.f (a0:Int) (a1:Int) (a2:Int):Option (Bool):=if a0≥a1 then(some (decide (a0≤a2)))else(some false)
theorem impl_within.calls (a0:Int) (a1:Int) (a2:Int) (r:Bool) (w:World) (h:impl_within.f a0 a1 a2=some r) :
 Calls Try.prog 72 #[.int .i64 a0,.int .i64 a1,.int .i64 a2] w fun e w'=>e = .returned (.bool r)∧Drawn0 w w':=by
 have H:(if a0≥a1 then(some (decide (a0≤a2)))else(some false))=some r:=h;clear h;revert H
 refine iB (fun am=>?_) (fun am=>?_)
 · intro H;obtain rfl:=zC H;go_enter Try.func72,Try.ntmps72;go_wp2;go_ret;exact⟨eQ,dQ⟩
 · intro H;obtain rfl:=zC H;go_enter Try.func72,Try.ntmps72;go_wp2;go_ret;exact⟨eQ,dQ⟩
def impl_TokenOk.j0:Nat→Bool→Int→Int→Int→Option (Bool)
  | 0,_,_,_,_=>none
  | k+1,x10,x563000,x563001,x563002=>if x10=true then((impl_within.f x563000 0 255).bind fun t563=>(some t563))else(if x563000=0 then((impl_within.f x563001 3 258).bind fun t564=>(if t564=true then((impl_within.f x563002 1 32768).bind fun t565=>(some t565))else(some false)))else(some false))
def impl_TokenOk.f (k:Nat) (a0_0:Int) (a0_1:Int) (a0_2:Int):Option (Bool):=if a0_1=0 then(impl_TokenOk.j0 k (a0_2 == 0) a0_0 a0_1 a0_2)else(impl_TokenOk.j0 k false a0_0 a0_1 a0_2)
theorem impl_TokenOk.calls (k:Nat) (a0_0:Int) (a0_1:Int) (a0_2:Int) (r:Bool) (w:World) (h:impl_TokenOk.f k a0_0 a0_1 a0_2=some r) :
 Calls Try.prog 86 #[.agg #[.int .i64 a0_0,.int .i64 a0_1,.int .i64 a0_2]] w fun e w'=>e = .returned (.bool r)∧Below w.heap.size w w':=by
 have hu70:=Try.underlying70;have HB:=aM (zQ w.heap.size w);have H:(if a0_1=0 then(impl_TokenOk.j0 k (a0_2 == 0) a0_0 a0_1 a0_2)else(impl_TokenOk.j0 k false a0_0 a0_1 a0_2))=some r:=h;clear h;revert H;refine adR fun HC2=>?_;go_enter Try.func86,Try.ntmps86
 go_upto_region 1 with (first|(refine bE 1 #[.int .i64 a0_0,.int .i64 a0_1,.int .i64 a0_2] 70 ?_;intro cq hg w3 hbox hb;have ag:=aM hbox;have cr:=aM (sZ hg);have dq:=cr;replace HB:=hS hb;clear hb hbox hg))
 (try simp only[Act.put,zE,zF,zG])
 go_cut [10] (fun v10 wc => ∃ (kq:Nat) (bf:Bool),v10 = .bool bf∧Aside0 (impl_TokenOk.j0 kq bf a0_0 a0_1 a0_2=some r)∧Aside0 (kq≤k)∧Aside0 (wc.heap[cq]? = some (.cells #[.int .i64 a0_0,.int .i64 a0_1,.int .i64 a0_2] 70 (0,0)))∧Aside0 (Below w.heap.size w wc))
 case first =>
  revert HC2;refine aoR ?_
  refine ifB (fun c4=>?_) (fun c4=>?_)
  · intro H;have am:=zT.mpr c4;have bS:=zP.mpr c4;clear c4
    (first|rw[am]|(simp only[i64_w,i32_w];rw[am])|skip);revert H;refine adR fun H'=>?_;have hz5:=bz3 ag;go_wp2;go_meet
    case rel=>exact⟨_,((a0_2 == 0)),eQ,H',⟨lE⟩,⟨bI ag.out⟩,⟨hB⟩⟩
  · intro H;have am:=zK.mpr c4;have bS:=zU.mpr c4
    (first|rw[am]|(simp only[i64_w,i32_w];rw[am])|skip);revert H;refine adR fun H'=>?_;have hz6:=bz3 ag;go_wp2;go_meet
    case rel=>exact⟨_,(false),eQ,H',⟨lE⟩,⟨bI ag.out⟩,⟨hB⟩⟩
 case rest =>
  clear HC2;(try clear p2);(try clear c3);(try clear c4);(try clear am);(try clear bS);(try clear hz5);(try clear hz6);obtain⟨kq,bf,rfl,HA,HJ1,ag,HB⟩:=hcut;rcases kq with _|kj1
  · exact absurd HA.out (by simp[impl_TokenOk.j0])
  revert HA;refine aoR ?_;intro H;simp only[impl_TokenOk.j0]at H;revert H
  refine bB (fun c7=>?_) (fun c7=>?_)
  · intro H;subst c7;revert H;refine bdR fun t563 A8=>?_;intro H;obtain rfl:=zC H;have hz9:=bz3 ag
    go_wp2_with (first|(refine gL (some 13) Try.func72 #[.int .i64 a0_0,.int .i64 0,.int .i64 255] ?_;(with_reducible refine(impl_within.calls a0_0 0 255 t563 _ A8.out).mono ?_);rintro e w' ⟨rfl,⟨nd,rfl⟩⟩;refine⟨_,rfl,?_⟩));go_ret;exact⟨eE,hB⟩
  · intro H;subst c7;revert H
    refine iQ (fun bu bv=>?_) (fun c10 bu bv=>?_)
    · refine bdR fun t564 A11=>?_
      refine bB (fun c12=>?_) (fun c12=>?_)
      · intro H;subst c12;revert H;refine bdR fun t565 A13=>?_;intro H;obtain rfl:=zC H;have dx:=bz3 ag
        go_wp2_with (first|(go_at_call 72;(with_reducible refine(impl_within.calls a0_1 3 258 true _ A11.out).mono ?_);rintro e w' ⟨rfl,⟨nd,rfl⟩⟩)|(go_at_call 72;(with_reducible refine(impl_within.calls a0_2 1 32768 t565 _ A13.out).mono ?_);rintro e w' ⟨rfl,⟨nd,rfl⟩⟩));go_ret;exact⟨eE,hB⟩
      · intro H;subst c12;obtain rfl:=zC H;have dy:=bz3 ag
        go_wp2_with (first|(go_at_call 72;(with_reducible refine(impl_within.calls a0_1 3 258 false _ A11.out).mono ?_);rintro e w' ⟨rfl,⟨nd,rfl⟩⟩));go_ret;exact⟨eE,hB⟩
    · intro H;obtain rfl:=zC H;have dz:=bz3 ag;go_wp2;go_ret;exact⟨eE,hB⟩
def impl_tokensOk.l0:Nat→List (S70)→List (S70)→Int→Int→Option (Bool)
  | 0,_,_,_,_=>none
  | k+1,x0,x5,x6,x7=>if x7<x6 then(if 0≤x7 then(if x7<(x5.length:Int)then((impl_TokenOk.f k ((rd_T70 x5 x7).f0) ((rd_T70 x5 x7).f1) ((rd_T70 x5 x7).f2)).bind fun t568=>(if t568=true then(impl_tokensOk.l0 k x0 x5 x6 (wrap64 (x7+1)))else(some false)))else(none))else(none))else(some (decide ((x0.length:Int)≤12000)))
def impl_tokensOk.f (k:Nat) (l0:List (S70)):Option (Bool):=impl_tokensOk.l0 k l0 l0 (l0.length:Int) 0
theorem impl_tokensOk.calls (k:Nat) (A0:Option Addr) (c0:Nat) (l0:List (S70)) (r:Bool) (w:World) (hr0:Kd.C k70 w A0 l0.length l0) (hc0:l0.length≤c0) (h:impl_tokensOk.f k l0=some r) :
 Calls Try.prog 54 #[.slice A0 l0.length c0] w fun e w'=>e = .returned (.bool r)∧Below w.heap.size w w':=by
 have hu70:=Try.underlying70;have HR0:=aM hr0;have HC0:=aM hc0;clear hr0 hc0;have HB:=aM (zQ w.heap.size w);have H:(impl_tokensOk.l0 k l0 l0 (l0.length:Int) 0)=some r:=h;clear h;revert H;refine adR fun H'=>?_;go_enter Try.func54,Try.ntmps54;go_wp2
 go_loopg [7] k (fun kq v7 w' => ∃ (ab:Int),v7 = .int .i64 ab∧Aside0 (impl_tokensOk.l0 kq l0 l0 (l0.length:Int) ab=some r)∧Aside0 (kq≤k)∧Aside0 (Below w.heap.size w w'))
 case atStart=>exact⟨(0),eQ,H',⟨zI _⟩,⟨hB⟩⟩
 case round =>
  clear H';obtain⟨ab,rfl,HA,HK1,HB⟩:=hrel;rcases gk with _|k1
  · exact absurd HA.out (by simp[impl_tokensOk.l0])
  revert HA;refine aoR ?_;intro H;simp only[impl_tokensOk.l0]at H;revert H
  refine iB (fun aw=>?_) (fun aw=>?_)
  · refine iR fun bj=>?_;refine iR fun am=>?_;refine bdR fun t568 A5=>?_
    refine bB (fun c6=>?_) (fun c6=>?_)
    · intro H;subst c6;revert H;refine adR fun H'=>?_;have az:0≤(ab:Int):=bD;have aA:ab<(l0.length:Int):=bD;obtain⟨ct,bT,ah,ai,aj⟩:=at_T70 HR0.out ab az aA;cases bT;replace ah:=cB0 HB ah;replace ai:=cB0 HB ai;replace aj:=cB0 HB aj;replace az:=zB az;replace aA:=zB aA
      go_wp2_with (first|(refine bE 4 #[.int .i64 0,.int .i64 0,.int .i64 0] 70 ?_;intro bg hg w7 hbox hb;have au:=aM hbox;have bh:=aM (sZ hg);have cu:=bh;replace HB:=hS hb;clear hb hbox hg;have hz8:=bz3 au)|(refine gL (some 12) Try.func86 #[.agg #[.int .i64 ((rd_T70 l0 ab).f0),.int .i64 ((rd_T70 l0 ab).f1),.int .i64 ((rd_T70 l0 ab).f2)]] ?_;(with_reducible refine(impl_TokenOk.calls k1 ((rd_T70 l0 ab).f0) ((rd_T70 l0 ab).f1) ((rd_T70 l0 ab).f2) true _ A5.out).mono ?_);rintro e w9 ⟨rfl,hb⟩;refine⟨_,rfl,?_⟩;replace au:=aM (blk_below (g:=bg) (o:=.cells #[.int .i64 ((rd_T70 l0 ab).f0),.int .i64 ((rd_T70 l0 ab).f1),.int .i64 ((rd_T70 l0 ab).f2)] 70 (0,0)) kB hb);replace HB:=hS hb;clear hb));go_roundg k1
      case measure=>have:=HK1.out;omega
      case rel=>exact⟨(wrap64 (ab+1)),eQ,H',⟨by have:=HK1.out;omega⟩,⟨hB⟩⟩
    · intro H;subst c6;obtain rfl:=zC H;have az:0≤(ab:Int):=bD;have aA:ab<(l0.length:Int):=bD;obtain⟨ct,bT,ah,ai,aj⟩:=at_T70 HR0.out ab az aA;cases bT;replace ah:=cB0 HB ah;replace ai:=cB0 HB ai;replace aj:=cB0 HB aj;replace az:=zB az;replace aA:=zB aA
      go_wp2_with (first|(refine bE 4 #[.int .i64 0,.int .i64 0,.int .i64 0] 70 ?_;intro bg hg w10 hbox hb;have au:=aM hbox;have bh:=aM (sZ hg);have cu:=bh;replace HB:=hS hb;clear hb hbox hg;have dA:=bz3 au)|(refine gL (some 12) Try.func86 #[.agg #[.int .i64 ((rd_T70 l0 ab).f0),.int .i64 ((rd_T70 l0 ab).f1),.int .i64 ((rd_T70 l0 ab).f2)]] ?_;(with_reducible refine(impl_TokenOk.calls k1 ((rd_T70 l0 ab).f0) ((rd_T70 l0 ab).f1) ((rd_T70 l0 ab).f2) false _ A5.out).mono ?_);rintro e w12 ⟨rfl,hb⟩;refine⟨_,rfl,?_⟩;replace au:=aM (blk_below (g:=bg) (o:=.cells #[.int .i64 ((rd_T70 l0 ab).f0),.int .i64 ((rd_T70 l0 ab).f1),.int .i64 ((rd_T70 l0 ab).f2)] 70 (0,0)) kB hb);replace HB:=hS hb;clear hb));go_ret;exact⟨eE,hB⟩
  · intro H;obtain rfl:=zC H;go_wp2;go_ret;exact⟨eE,hB⟩
def impl_lengthSpan.f (a0:Int):Option (Int×Int):=if a0=285 then(some (258,0))else(if(wrap64 (a0-257))<8 then(some (wrap64 (3+(wrap64 (a0-257))),0))else(if 0≤(wrap64 ((wrap64 (Int.tdiv (wrap64 (a0-257)) 4))-1))then(some (wrap64 (3+(shl .i64 (wrap64 (4+(Int.tmod (wrap64 (a0-257)) 4))) (wrap64 ((wrap64 (Int.tdiv (wrap64 (a0-257)) 4))-1)))),wrap64 ((wrap64 (Int.tdiv (wrap64 (a0-257)) 4))-1)))else(none)))
theorem impl_lengthSpan.calls (a0:Int) (r1:Int) (r2:Int) (w:World) (h:impl_lengthSpan.f a0=some (r1,r2)) :
 Calls Try.prog 97 #[.int .i64 a0] w fun e w'=>e = .returned (.tuple #[.int .i64 r1,.int .i64 r2])∧Drawn0 w w':=by
 unfold impl_lengthSpan.f at h;have H:=h;clear h;revert H
 refine iQ (fun aw bz=>?_) (fun c2 aw bz=>?_)
 · intro H;simp only[zL,zM]at H;obtain⟨rfl,rfl⟩:=H;go_enter Try.func97,Try.ntmps97;go_wp2
   go_ret2;exact⟨eQ,dQ⟩
 · intro H;revert H
   refine iB (fun bj=>?_) (fun bj=>?_)
   · intro H;simp only[zL,zM]at H;obtain⟨rfl,rfl⟩:=H;go_enter Try.func97,Try.ntmps97;go_wp2
     go_ret2;exact⟨eQ,dQ⟩
   · intro H;obtain⟨ji4,bl⟩:∃ j_:Int,(wrap64 ((wrap64 (Int.tdiv (wrap64 (a0-257)) 4))-1))=j_:=⟨_,rfl⟩;replace H:(if 0≤(ji4)then(some (wrap64 (3+(shl .i64 (wrap64 (4+(Int.tmod (wrap64 (a0-257)) 4))) (ji4))),ji4))else(none))=some (r1,r2):=by first|(rw[bl]at H;exact H)|(simp only[bl]at H ⊢;exact H)
     have dt:(IntKind.i64.wrap ((wrap64 (Int.tdiv (wrap64 (a0-257)) 4))-1))=ji4:=(i64_w _).trans bl;revert H;refine ifR fun c5=>?_;intro H;have cw:=zB c5;have dB:=zN c5;clear c5;obtain⟨ji6,bi⟩:∃ j_:Int,(shl .i64 (wrap64 (4+(Int.tmod (wrap64 (a0-257)) 4))) (ji4))=j_:=⟨_,rfl⟩;replace H:(some (wrap64 (3+(ji6)),ji4))=some (r1,r2):=by first|(rw[bi]at H;exact H)|(simp only[bi]at H ⊢;exact H)
     have hji6_:(IntKind.i64.wrap ((wrap64 (4+(Int.tmod (wrap64 (a0-257)) 4)))*2 ^ min (ji4).toNat 64))=ji6:=bi;have hji6z:(ji4)≤64→(IntKind.i64.wrap ((wrap64 (4+(Int.tmod (wrap64 (a0-257)) 4)))*2 ^ (ji4).toNat))=ji6:=shl_small bi;have hji6y:(wrap64 ((wrap64 (4+(Int.tmod (wrap64 (a0-257)) 4)))*2 ^ min (ji4).toNat 64))=ji6:=(i64_w _).symm.trans hji6_;have hji6x:(ji4)≤64→(wrap64 ((wrap64 (4+(Int.tmod (wrap64 (a0-257)) 4)))*2 ^ (ji4).toNat))=ji6:=fun h_=>(i64_w _).symm.trans (hji6z h_)
     simp only[zL,zM]at H;obtain⟨rfl,rfl⟩:=H;go_enter Try.func97,Try.ntmps97;go_wp2
     go_ret2;exact⟨by first|rfl|(simp;done)|(simp only[← bl,← bi] <;> (first|rfl|simp))|(simp[*];done),dQ⟩
def impl_LengthCode.l0:Nat→Int→Int→Int→Int→Option (Int×Int×Int)
  | 0,_,_,_,_=>none
  | k+1,x0,x5,x6,x7=>if x6>x0 then((impl_lengthSpan.f (wrap64 (x5-1))).bind fun bt572=>(impl_LengthCode.l0 k x0 (wrap64 (x5-1)) bt572.1 bt572.2))else(some (x5,x7,wrap64 (x0-x6)))
def impl_LengthCode.f (k:Nat) (a0:Int):Option (Int×Int×Int):=(impl_within.f a0 3 258).bind fun bn=>(if bn=true then((impl_lengthSpan.f 285).bind fun av=>(impl_LengthCode.l0 k a0 285 av.1 av.2))else(some (0,0,0)))
theorem impl_LengthCode.calls (k:Nat) (a0:Int) (r1:Int) (r2:Int) (r3:Int) (w:World) (h:impl_LengthCode.f k a0=some (r1,r2,r3)) :
 Calls Try.prog 69 #[.int .i64 a0] w fun e w'=>e = .returned (.tuple #[.int .i64 r1,.int .i64 r2,.int .i64 r3])∧Drawn0 w w':=by
 have H:((impl_within.f a0 3 258).bind fun bn=>(if bn=true then((impl_lengthSpan.f 285).bind fun av=>(impl_LengthCode.l0 k a0 285 av.1 av.2))else(some (0,0,0))))=some (r1,r2,r3):=h;clear h;revert H;refine bdR fun bn A2=>?_
 refine bB (fun c3=>?_) (fun c3=>?_)
 · intro H;subst c3;revert H;refine bdR fun⟨cx,cy⟩ A4=>?_;intro H
   try dsimp only at H
   revert H;refine adR fun H'=>?_;go_enter Try.func69,Try.ntmps69
   go_wp2_with (first|(refine gL (some 9) Try.func72 #[.int .i64 a0,.int .i64 3,.int .i64 258] ?_;(with_reducible refine(impl_within.calls a0 3 258 true _ A2.out).mono ?_);rintro e w' ⟨rfl,⟨nd,rfl⟩⟩;refine⟨_,rfl,?_⟩)|(refine gL (some 13) Try.func97 #[.int .i64 285] ?_;(with_reducible refine(impl_lengthSpan.calls 285 cx cy _ A4.out).mono ?_);rintro e w' ⟨rfl,⟨nd,rfl⟩⟩;refine⟨_,rfl,?_⟩))
   go_loopg [5,6,7] k (fun kq v5 v6 v7 w' => ∃ (ac:Int) (bU:Int) (ab:Int),v5 = .int .i64 ac∧v6 = .int .i64 bU∧v7 = .int .i64 ab∧Aside0 (impl_LengthCode.l0 kq a0 ac bU ab=some (r1,r2,r3))∧Aside0 (kq≤k)∧Drawn0 w w')
   case atStart=>exact⟨(285),(cx),(cy),eQ,eQ,eQ,H',⟨zI _⟩,dQ⟩
   case round =>
    clear H';(try clear p2);(try clear c3);obtain⟨ac,bU,ab,rfl,rfl,rfl,HA,HK1,⟨m1,rfl⟩⟩:=hrel;rcases gk with _|k1
    · exact absurd HA.out (by simp[impl_LengthCode.l0])
    revert HA;refine aoR ?_;intro H;simp only[impl_LengthCode.l0]at H;revert H
    refine iB (fun cw=>?_) (fun cw=>?_)
    · refine bdR fun⟨cz,cA⟩ A6=>?_;intro H
      try dsimp only at H
      revert H;refine adR fun H'=>?_
      go_wp2_with (first|(refine gL (some 23) Try.func97 #[.int .i64 (wrap64 (ac-1))] ?_;(with_reducible refine(impl_lengthSpan.calls (wrap64 (ac-1)) cz cA _ A6.out).mono ?_);rintro e w' ⟨rfl,⟨nd,rfl⟩⟩;refine⟨_,rfl,?_⟩));go_roundg k1
      case measure=>have:=HK1.out;omega
      case rel=>exact⟨(wrap64 (ac-1)),(cz),(cA),eQ,eQ,eQ,H',⟨by have:=HK1.out;omega⟩,dQ⟩
    · intro H;simp only[zL,zM]at H;obtain⟨rfl,rfl,rfl⟩:=H;go_wp2
      go_ret3;exact⟨eQ,dQ⟩
 · intro H;subst c3;simp only[zL,zM]at H;obtain⟨rfl,rfl,rfl⟩:=H;go_enter Try.func69,Try.ntmps69
   go_wp2_with (first|(refine gL (some 9) Try.func72 #[.int .i64 a0,.int .i64 3,.int .i64 258] ?_;(with_reducible refine(impl_within.calls a0 3 258 false _ A2.out).mono ?_);rintro e w' ⟨rfl,⟨nd,rfl⟩⟩;refine⟨_,rfl,?_⟩))
   go_ret3;exact⟨eQ,dQ⟩
def impl_distSpan.f (a0:Int):Option (Int×Int):=if a0<4 then(some (wrap64 (1+a0),0))else(if 0≤(wrap64 ((wrap64 (Int.tdiv a0 2))-1))then(some (wrap64 (1+(shl .i64 (wrap64 (2+(Int.tmod a0 2))) (wrap64 ((wrap64 (Int.tdiv a0 2))-1)))),wrap64 ((wrap64 (Int.tdiv a0 2))-1)))else(none))
theorem impl_distSpan.calls (a0:Int) (r1:Int) (r2:Int) (w:World) (h:impl_distSpan.f a0=some (r1,r2)) :
 Calls Try.prog 98 #[.int .i64 a0] w fun e w'=>e = .returned (.tuple #[.int .i64 r1,.int .i64 r2])∧Drawn0 w w':=by
 unfold impl_distSpan.f at h;have H:=h;clear h;revert H
 refine iB (fun aw=>?_) (fun aw=>?_)
 · intro H;simp only[zL,zM]at H;obtain⟨rfl,rfl⟩:=H;go_enter Try.func98,Try.ntmps98;go_wp2
   go_ret2;exact⟨eQ,dQ⟩
 · intro H;obtain⟨ji3,bo⟩:∃ j_:Int,(wrap64 ((wrap64 (Int.tdiv a0 2))-1))=j_:=⟨_,rfl⟩;replace H:(if 0≤(ji3)then(some (wrap64 (1+(shl .i64 (wrap64 (2+(Int.tmod a0 2))) (ji3))),ji3))else(none))=some (r1,r2):=by first|(rw[bo]at H;exact H)|(simp only[bo]at H ⊢;exact H)
   have du:(IntKind.i64.wrap ((wrap64 (Int.tdiv a0 2))-1))=ji3:=(i64_w _).trans bo;revert H;refine ifR fun c4=>?_;intro H;have am:=zB c4;have bS:=zN c4;clear c4;obtain⟨ji5,an⟩:∃ j_:Int,(shl .i64 (wrap64 (2+(Int.tmod a0 2))) (ji3))=j_:=⟨_,rfl⟩;replace H:(some (wrap64 (1+(ji5)),ji3))=some (r1,r2):=by first|(rw[an]at H;exact H)|(simp only[an]at H ⊢;exact H)
   have hji5_:(IntKind.i64.wrap ((wrap64 (2+(Int.tmod a0 2)))*2 ^ min (ji3).toNat 64))=ji5:=an;have hji5z:(ji3)≤64→(IntKind.i64.wrap ((wrap64 (2+(Int.tmod a0 2)))*2 ^ (ji3).toNat))=ji5:=shl_small an;have hji5y:(wrap64 ((wrap64 (2+(Int.tmod a0 2)))*2 ^ min (ji3).toNat 64))=ji5:=(i64_w _).symm.trans hji5_;have hji5x:(ji3)≤64→(wrap64 ((wrap64 (2+(Int.tmod a0 2)))*2 ^ (ji3).toNat))=ji5:=fun h_=>(i64_w _).symm.trans (hji5z h_)
   simp only[zL,zM]at H;obtain⟨rfl,rfl⟩:=H;go_enter Try.func98,Try.ntmps98;go_wp2
   go_ret2;exact⟨by first|rfl|(simp;done)|(simp only[← bo,← an] <;> (first|rfl|simp))|(simp[*];done),dQ⟩
end Go.Proofs.Ytldiiicbgdfapaa.PFnExactWovenBlock
