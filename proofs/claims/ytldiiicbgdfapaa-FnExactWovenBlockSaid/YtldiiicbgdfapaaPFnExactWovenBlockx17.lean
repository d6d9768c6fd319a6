/- Walks of functions that the law reaches: each call comes to what the Lean function of its name tells. -/
import Derived.Test.YtldiiicbgdfapaaPFnExactWovenBlockx16
namespace Go.Proofs.Ytldiiicbgdfapaa.PFnExactWovenBlock
open Go.RowKit Go.Proofs.YtldiiicbgdfapaaW.PrintWords Go.Proofs.YtldiiicbgdfapaaW.PrintLast Go.Proofs.YtldiiicbgdfapaaW.PrintMore
attribute [local go_sem] max2_int min2_int max_two min_two max_three min_three max_four min_four
set_option linter.unusedVariables false
set_option maxHeartbeats 8000000
set_option maxRecDepth 100000
set_option linter.unusedSimpArgs false
mutual
def impl_LimitedLengths.l0:Nat→List Int→Int→List Int→Int→Int→Option (List Int×Bool)
  | 0,_,_,_,_,_=>none
  | k+1,x0,x1,x16,x17,x18=>if x18<x17 then(if 0≤x18 then(if x18<(x16.length:Int)then((impl_within.f (rd x16 x18) 0 12000).bind fun t609=>(if t609=true then(impl_LimitedLengths.l0 k x0 x1 x16 x17 (wrap64 (x18+1)))else(some (([]:List Int),false))))else(none))else(none))else(if(x0.length:Int)>288 then(impl_LimitedLengths.j1 k x0 x1 true)else((impl_within.f x1 1 15).bind fun t610=>(impl_LimitedLengths.j1 k x0 x1 (!t610))))
def impl_LimitedLengths.j1:Nat→List Int→Int→Bool→Option (List Int×Bool)
  | 0,_,_,_=>none
  | k+1,x0,x1,x33=>if x33=true then(some (([]:List Int),false))else((impl_coinsOf.f k x0).bind fun t611=>((impl_powerOf.f x1).bind fun t614=>(if(t611.length:Int)>t614 then(some (([]:List Int),false))else(if 0≤(x0.length:Int)then(if((x0.length:Int):Int).toNat≤35184372088832 then((some (List.replicate ((x0.length:Int):Int).toNat 0:List Int)).bind fun y615=>(if(t611.length:Int)=1 then(if 0<(t611.length:Int)then(if 0<(((rd_T141 t611 0).f1).length:Int)then(if 0≤(rd ((rd_T141 t611 0).f1) 0)then(if(rd ((rd_T141 t611 0).f1) 0)<(y615.length:Int)then(impl_LimitedLengths.j2 k x1 t611 (t611.length:Int) (y615.set ((rd ((rd_T141 t611 0).f1) 0):Int).toNat 1))else(none))else(none))else(none))else(none))else(impl_LimitedLengths.j2 k x1 t611 (t611.length:Int) y615)))else(none))else(none)))))
def impl_LimitedLengths.j2:Nat→Int→List (S141)→Int→List Int→Option (List Int×Bool)
  | 0,_,_,_,_=>none
  | k+1,x1,x8,x9,x10=>if x9<2 then(some (x10,true))else(impl_LimitedLengths.l1 k x8 x9 x10 x8 (wrap64 (x1-1)) 0)
def impl_LimitedLengths.l1:Nat→List (S141)→Int→List Int→List (S141)→Int→Int→Option (List Int×Bool)
  | 0,_,_,_,_,_,_=>none
  | k+1,x8,x9,x10,x11,x60,x61=>if x61<x60 then((impl_nextCoins.f k x8 x11).bind fun t621=>(impl_LimitedLengths.l1 k x8 x9 x10 t621 x60 (wrap64 (x61+1))))else(if 0≤(wrap64 ((wrap64 (2*x9))-2))then(if(wrap64 ((wrap64 (2*x9))-2))≤(x11.length:Int)then((some (x11.take ((wrap64 ((wrap64 (2*x9))-2)):Int).toNat:List (S141))).bind fun y624=>(impl_LimitedLengths.l2 k x10 y624 (y624.length:Int) 0))else(none))else(none))
def impl_LimitedLengths.l2:Nat→List Int→List (S141)→Int→Int→Option (List Int×Bool)
  | 0,_,_,_,_=>none
  | k+1,x10,x71,x72,x73=>if x73<x72 then(if 0≤x73 then(if x73<(x71.length:Int)then(impl_LimitedLengths.l3 k x10 x71 x72 x73 ((rd_T141 x71 x73).f1) (((rd_T141 x71 x73).f1).length:Int) 0)else(none))else(none))else(some (x10,true))
def impl_LimitedLengths.l3:Nat→List Int→List (S141)→Int→Int→List Int→Int→Int→Option (List Int×Bool)
  | 0,_,_,_,_,_,_,_=>none
  | k+1,x10,x71,x72,x73,x78,x79,x80=>if x80<x79 then(if 0≤x80 then(if x80<(x78.length:Int)then(if 0≤(rd x78 x80)then(if(rd x78 x80)<(x10.length:Int)then(impl_LimitedLengths.l3 k (x10.set ((rd x78 x80):Int).toNat (wrap64 ((rd x10 (rd x78 x80))+1))) x71 x72 x73 x78 x79 (wrap64 (x80+1)))else(none))else(none))else(none))else(none))else(impl_LimitedLengths.l2 k x10 x71 x72 (wrap64 (x73+1)))
end
def impl_LimitedLengths.f (k:Nat) (l0:List Int) (a1:Int):Option (List Int×Bool):=impl_LimitedLengths.l0 k l0 a1 l0 (l0.length:Int) 0
theorem impl_LimitedLengths.calls (k:Nat) (A0:Option Addr) (c0:Nat) (l0:List Int) (a1:Int) (r1:List Int) (r2:Bool) (w:World) (hr0:Kd.C (Kd.int .i64) w A0 l0.length l0) (hc0:l0.length≤c0) (h:impl_LimitedLengths.f k l0 a1=some (r1,r2)) :
 Calls Try.prog 71 #[.slice A0 l0.length c0,.int .i64 a1] w fun e w' => ∃ v0_:Value,e = .returned (.tuple #[v0_,.bool r2])∧Kd.R (Kd.int .i64) 3 w' w.heap.size (fun _=>True) v0_ r1∧Below w.heap.size w w':=by
 have hu141:=Try.underlying141;have HR0:=aM hr0;have HC0:=aM hc0;clear hr0 hc0;have HB:=aM (zQ w.heap.size w);have H:(impl_LimitedLengths.l0 k l0 a1 l0 (l0.length:Int) 0)=some (r1,r2):=h;clear h;revert H;refine adR fun H'=>?_;go_enter Try.func71,Try.ntmps71;go_wp2
 go_loopg [18] k (fun kq v18 w' => ∃ (ai:Int),v18 = .int .i64 ai∧Aside0 (impl_LimitedLengths.l0 kq l0 a1 l0 (l0.length:Int) ai=some (r1,r2))∧Aside0 (kq≤k)∧Aside0 (Below w.heap.size w w'))
 case atStart=>exact⟨(0),eQ,H',⟨zI _⟩,⟨hB⟩⟩
 case round =>
  clear H';(try clear p2);obtain⟨ai,rfl,HA,HK1,HB⟩:=hrel;rcases gk with _|k1
  · exact absurd HA.out (by simp[impl_LimitedLengths.l0])
  revert HA;refine aoR ?_;intro H;simp only[impl_LimitedLengths.l0]at H;revert H
  refine iB (fun bF=>?_) (fun bF=>?_)
  · refine iR fun bK=>?_;refine iR fun bM=>?_;refine bdR fun t609 A6=>?_
    refine bB (fun c7=>?_) (fun c7=>?_)
    · intro H;subst c7;revert H;refine adR fun H'=>?_;have ay:0≤(ai:Int):=bD;have az:ai<(l0.length:Int):=bD;obtain⟨cn,ca,ae⟩:=zV HR0.out ai ay az;cases ca
      try replace ae:=cB0 HB ae
      replace ay:=zB ay;replace az:=zB az
      go_wp2_with (first|(refine gL (some 23) Try.func72 #[.int .i64 (rd l0 ai),.int .i64 0,.int .i64 12000] ?_;(with_reducible refine(impl_within.calls (rd l0 ai) 0 12000 true _ A6.out).mono ?_);rintro e w' ⟨rfl,⟨nd,rfl⟩⟩;refine⟨_,rfl,?_⟩));go_roundg k1
      case measure=>have:=HK1.out;omega
      case rel=>exact⟨(wrap64 (ai+1)),eQ,H',⟨by have:=HK1.out;omega⟩,⟨hB⟩⟩
    · intro H;subst c7;simp only[zL,zM]at H;obtain⟨rfl,rfl⟩:=H;have ay:0≤(ai:Int):=bD;have az:ai<(l0.length:Int):=bD;obtain⟨cn,ca,ae⟩:=zV HR0.out ai ay az;cases ca
      try replace ae:=cB0 HB ae
      replace ay:=zB ay;replace az:=zB az
      go_wp2_with (first|(refine gL (some 23) Try.func72 #[.int .i64 (rd l0 ai),.int .i64 0,.int .i64 12000] ?_;(with_reducible refine(impl_within.calls (rd l0 ai) 0 12000 false _ A6.out).mono ?_);rintro e w' ⟨rfl,⟨nd,rfl⟩⟩;refine⟨_,rfl,?_⟩))
      go_ret2;exact⟨_,eE,by first|exact Kd.R_nil _ _ _ _ _|exact Kd.N_nil _ _ _ _ _|exact Kd.V_nil _ _ _ _ _|exact Kd.Q_nil _ _ _ _ _|exact Kd.S_nil _ _ _ _ _,hB⟩
  · refine adR fun HC8=>?_
    go_upto_region 7 with (fail)
    go_cut [33] (fun v33 wc => ∃ (kq:Nat) (bN:Bool),v33 = .bool bN∧Aside0 (impl_LimitedLengths.j1 kq l0 a1 bN=some (r1,r2))∧Aside0 (kq≤k1)∧Aside0 (Below w.heap.size w wc))
    case first =>
     revert HC8;refine aoR ?_
     refine ifB (fun c9=>?_) (fun c9=>?_)
     · intro H;have aD:=zN c9;have bG:decide (288<l0.length)=true:=zN (by omega);clear c9
       (first|rw[aD]|(simp only[i64_w,i32_w];rw[aD])|skip);revert H;refine adR fun H'=>?_;go_wp2;go_meet
       case rel=>exact⟨_,(true),eQ,H',⟨by have:=HK1.out;first|omega|exact zI _⟩,⟨hB⟩⟩
     · intro H;have aD:=zO c9;have bG:decide (288<l0.length)=false:=zO (by omega);clear c9
       (first|rw[aD]|(simp only[i64_w,i32_w];rw[aD])|skip);revert H;refine bdR fun t610 A10=>?_;refine adR fun H'=>?_
       go_wp2_with (first|(go_at_call 72;(with_reducible refine(impl_within.calls a1 1 15 t610 _ A10.out).mono ?_);rintro e w' ⟨rfl,⟨nd,rfl⟩⟩));go_meet
       case rel=>exact⟨_,(!t610),eQ,H',⟨by have:=HK1.out;first|omega|exact zI _⟩,⟨hB⟩⟩
    case rest =>
     clear HC8;(try clear p2);(try clear bF);(try clear bK);(try clear bM);(try clear c7);(try clear c9);(try clear aD);(try clear bG);(try clear ae);(try clear ay);(try clear az);obtain⟨kq,bN,rfl,HA,HJ7,HB⟩:=hcut;rcases kq with _|kj7
     · exact absurd HA.out (by simp[impl_LimitedLengths.j1])
     revert HA;refine aoR ?_;intro H;simp only[impl_LimitedLengths.j1]at H;revert H
     refine bB (fun c11=>?_) (fun c11=>?_)
     · intro H;subst c11;simp only[zL,zM]at H;obtain⟨rfl,rfl⟩:=H;go_wp2
       go_ret2;exact⟨_,eE,by first|exact Kd.R_nil _ _ _ _ _|exact Kd.N_nil _ _ _ _ _|exact Kd.V_nil _ _ _ _ _|exact Kd.Q_nil _ _ _ _ _|exact Kd.S_nil _ _ _ _ _,hB⟩
     · intro H;subst c11;revert H;refine bdR fun t611 A12=>?_;refine bdR fun t614 A13=>?_
       refine iB (fun aJ=>?_) (fun aJ=>?_)
       · intro H;simp only[zL,zM]at H;obtain⟨rfl,rfl⟩:=H
         go_wp2_with (first|(refine gL (some 35) Try.func99 #[.slice A0 l0.length c0] ?_;(with_reducible refine(impl_coinsOf.calls kj7 _ _ l0 t611 _ (Kd.C_i (Kd.C_below HR0.out HB.out)) HC0.out A12.out).mono ?_);rintro e w15 ⟨cL,rfl,ho0,hb⟩;refine⟨_,rfl,?_⟩;have an:=aM (z3 (zr (ok':=fun k_=>True) ho0 (fun k_ hk_=>trivial)) (zD hB));replace HB:=hS hb;clear hb ho0;obtain⟨dv,dw,cM⟩:=Kd.N_slice an.out;subst cM)|(refine gL (some 40) Try.func100 #[.int .i64 a1] ?_;(with_reducible refine(impl_powerOf.calls a1 t614 _ A13.out).mono ?_);rintro e w' ⟨rfl,⟨nd,rfl⟩⟩;refine⟨_,rfl,?_⟩))
         go_ret2;exact⟨_,eE,by first|exact Kd.R_nil _ _ _ _ _|exact Kd.N_nil _ _ _ _ _|exact Kd.V_nil _ _ _ _ _|exact Kd.Q_nil _ _ _ _ _|exact Kd.S_nil _ _ _ _ _,hB⟩
       · refine ifR fun c17=>?_;intro H;have aW:=zB c17;have aX:=zN c17;clear c17;revert H;refine ifR fun c18=>?_;intro H;have aY:=zB c18;have aZ:=zN c18;clear c18;obtain⟨y615,hy_⟩:∃ y_:List Int,y_=(List.replicate ((l0.length:Int):Int).toNat 0):=⟨_,rfl⟩;replace H:(if(t611.length:Int)=1 then(if 0<(t611.length:Int)then(if 0<(((rd_T141 t611 0).f1).length:Int)then(if 0≤(rd ((rd_T141 t611 0).f1) 0)then(if(rd ((rd_T141 t611 0).f1) 0)<(y615.length:Int)then(impl_LimitedLengths.j2 kj7 a1 t611 (t611.length:Int) (y615.set ((rd ((rd_T141 t611 0).f1) 0):Int).toNat 1))else(none))else(none))else(none))else(none))else(impl_LimitedLengths.j2 kj7 a1 t611 (t611.length:Int) y615))=some (r1,r2):=nH;have bY:=aM hy_;clear hy_;revert H;refine adR fun cp=>?_
         go_upto_if 46 with (first|(refine gL (some 35) Try.func99 #[.slice A0 l0.length c0] ?_;(with_reducible refine(impl_coinsOf.calls kj7 _ _ l0 t611 _ (Kd.C_i (Kd.C_below HR0.out HB.out)) HC0.out A12.out).mono ?_);rintro e w20 ⟨cL,rfl,ho0,hb⟩;refine⟨_,rfl,?_⟩;have an:=aM (z3 (zr (ok':=fun k_=>True) ho0 (fun k_ hk_=>trivial)) (zD hB));replace HB:=hS hb;clear hb ho0;obtain⟨cd,bT,cN⟩:=Kd.N_slice an.out;subst cN)|(refine gL (some 40) Try.func100 #[.int .i64 a1] ?_;(with_reducible refine(impl_powerOf.calls a1 t614 _ A13.out).mono ?_);rintro e w' ⟨rfl,⟨nd,rfl⟩⟩;refine⟨_,rfl,?_⟩)|((with_reducible refine gD 44 ?_);refine Kd.R_make (Kd.int .i64) _ 3 rfl (N:=44) rfl 45 _ _ rfl (l0.length:Int) rfl rfl Try.underlying45 (.int .i64 0) 8 info3 rfl (by decide) (by omega) 0 (ok:=fun _=>True) (okp:=fun _=>True) rfl (fun _ hk=>hk) trivial (bD) (za (Nat.mul_le_mul_right _ (bD:(l0.length:Int).toNat≤35184372088832)) (by omega)) (zQ _ _) (zI _) ?_;intro aA w22 bH hb hg_ hnew_;clear hg_ hnew_;(first|rw[← bY.out]at bH|(simp only[Int.reduceToNat]at bH;rw[← bY.out]at bH));replace an:=aM (z2 (zc an.out) (ze bH) hb);have aG:=aM (zb bH (zD hB));replace HB:=hS hb;clear hb bH))
         (try simp only[Act.put,zE,zF,zG])
         go_cut [] (fun wc => ∃ (kq:Nat) (ap:List Int),Aside0 (impl_LimitedLengths.j2 kq a1 t611 (t611.length:Int) ap=some (r1,r2))∧Aside0 (kq≤kj7)∧Aside0 (Kd.N k141 141 wc w.heap.size (fun k_=>some k_≠(aA:Value).ownBlock) (.slice cd t611.length bT) t611)∧Aside0 (Kd.R (Kd.int .i64) 3 wc w.heap.size (fun _=>True) aA ap)∧Aside0 (Below w.heap.size w wc))
         case first =>
          revert cp;refine aoR ?_
          refine ifB (fun c24=>?_) (fun c24=>?_)
          · intro H;have ar:=zT.mpr c24;have aK:=zP.mpr c24;clear c24
            (first|rw[ar]|(simp only[i64_w,i32_w];rw[ar])|skip);revert H;refine ifR fun c25=>?_;intro H;have bb:=zN c25;have be:decide (0<t611.length)=true:=zN (by omega);clear c25;revert H;refine ifR fun c26=>?_;intro H;have bf:=zN c26;have bg:decide (0<((rd_T141 t611 0).f1).length)=true:=zN (by omega);clear c26;revert H;refine iR fun bh=>?_;refine iR fun bi=>?_;intro H;obtain⟨ce,hy_⟩:∃ y_:List Int,y_=(y615.set ((rd ((rd_T141 t611 0).f1) 0):Int).toNat 1):=⟨_,rfl⟩;replace H:(impl_LimitedLengths.j2 kj7 a1 t611 (t611.length:Int) ce)=some (r1,r2):=nH;have cq:=aM hy_;clear hy_;revert H;refine adR fun H'=>?_;have aN:0≤(0:Int):=(by omega);have aQ:0<(t611.length:Int):=bD;obtain⟨cr,cO,cP,cQ,am,aj,bj,bk⟩:=at_T141 (Kd.N_reads' an.out).2.2 0 aN aQ;cases cQ;obtain⟨ce618,hce618,hMe618,hcc618⟩:=Kd.N_get an.out z141 0 aN (by first|exact aQ|exact bD|(have e_:=(Kd.N_reads' an.out).1;omega));obtain⟨ua618_1,uc618_1,rfl,ul618_1,ge618_1⟩:=k141_openF hMe618;have hv618_1:=hcc618 1 _ rfl
            rw[add_field _ _ 1 (by omega)]at hv618_1;replace hv618_1:=zC (hv618_1.symm.trans aj)
            injection hv618_1 with hva_ hvn_ hvc_
            rw[hva_]at ge618_1
            rw[hvc_]at ul618_1;have bl:=aM (show Kd.V (Kd.int .i64) 3 _ w.heap.size _ _ ((rd_T141 t611 0).f1)from ZD ul618_1 ge618_1);clear hva_ hvn_ hvc_ ge618_1 ul618_1;clear hcc618 hce618;have qi618:(0<t611.length)=True:=zB (by omega)
            (try rw[show((0:Int)).toNat=0 from rfl]at am)
            (try rw[show 0*2=0 from rfl]at am)
            (try rw[Addr.add_zero']at am)
            (try rw[show((0:Int)).toNat=0 from rfl]at aj)
            (try rw[show 0*2=0 from rfl]at aj)
            (try rw[Addr.add_zero']at aj);have bn:=aM bk;have cJ:=aM bj;clear bk bj;replace aN:=zB aN;replace aQ:=zB aQ;have aT:0≤(0:Int):=(by omega);have aU:0<(((rd_T141 t611 0).f1).length:Int):=bD;obtain⟨di,cR,aq⟩:=zV (by repeat (first|(with_reducible exact bn.out)|(with_reducible refine z5 ?_ _)|(with_reducible refine z4 ?_ _)|(with_reducible refine z6 ?_)|exact bn.out)) 0 aT aU;cases cR;have qi619:(0<((rd_T141 t611 0).f1).length)=True:=zB (by omega)
            (try rw[show((0:Int)).toNat=0 from rfl]at aq)
            (try rw[Addr.add_zero']at aq);replace aT:=zB aT;replace aU:=zB aU;have p29:0≤((rd ((rd_T141 t611 0).f1) 0):Int):=bD;have q29:((rd ((rd_T141 t611 0).f1) 0):Int)<((y615.length:Int):Int):=bD;obtain⟨go29,bO,ct,cu,gl29,cl29,HG29⟩:=Kd.R_form aG.out (by omega)
            (first|cases ct|(injection ct with ea_ en_ ec_;(first|subst ea_|(injection ea_ with ea_;subst ea_));subst ec_;clear en_));have cS:=aM cu;have dx:=aM HG29;clear cu gl29 HG29;obtain⟨aH,cT⟩:=ZG 0 aG.out ((rd ((rd_T141 t611 0).f1) 0):Int) p29 q29;replace p29:=zB p29;replace q29:=zB q29;have cg:=Kd.R_putg aG.out ((rd ((rd_T141 t611 0).f1) 0):Int) 1
            go_wp2_with (first|((with_reducible refine gate_store (t:=3) (p:=54) rfl ?_);refine store_event (t:=3) (p:=54) (v:=?vo_w31) (w1:=(w22.setCell ⟨go29,((rd ((rd_T141 t611 0).f1) 0):Int).toNat,none⟩ (.int .i64 1))) ?hg ?ho ?hn ?hr ?_;(case ho=>rfl);(case hg=>rfl);(case hn=>rfl);(case hr=>first|(go_simp;done)|(go_simp;rfl));intro w31 hw;have hg:w22.grownBy w31 (some go29):=(by rw[hw];exact cg.2);have hp_:Kd.R (Kd.int .i64) 3 w31 w.heap.size (fun _=>True) (.slice (some ⟨go29,0,none⟩) y615.length bO) ce:=(by rw[hw,cq.out];exact cg.1);clear cg;replace an:=aM (Kd.N_afterv (v:=(.slice (some ⟨go29,0,none⟩) y615.length bO)) (v1:=(.slice (some ⟨go29,0,none⟩) y615.length bO)) (ok:=(fun _=>True)) (zc an.out) hg (.inl rfl));replace aG:=aM hp_;replace bl:=aM (zh (v:=(.slice (some ⟨go29,0,none⟩) y615.length bO)) (v1:=(.slice (some ⟨go29,0,none⟩) y615.length bO)) (ok:=(fun k_=>some k_≠(.slice (some cr) t611.length bT:Value).ownBlock)) (z1 (zl bl.out (fun _ hk=>⟨hk.2,hk.1.2⟩))) hg (.inl rfl));replace HB:=aM ((by rw[hw];exact below_set (HB.out) cS.out:Below w.heap.size w w31));clear hg hw hp_));go_meet
            case rel=>exact⟨_,(ce),H',⟨by have:=HK1.out;have:=HJ7.out;first|omega|exact zI _⟩,⟨zc (zr an.out (fun _ hk=>hk.2))⟩,⟨zA aG.out⟩,⟨hB⟩⟩
          · intro H;have ar:=zK.mpr c24;have aK:=zU.mpr c24
            (first|rw[ar]|(simp only[i64_w,i32_w];rw[ar])|skip);revert H;refine adR fun H'=>?_;go_wp2;go_meet
            case rel=>exact⟨_,(y615),H',⟨by have:=HK1.out;have:=HJ7.out;first|omega|exact zI _⟩,⟨zc (zr an.out (fun _ hk=>hk.2))⟩,⟨zA aG.out⟩,⟨hB⟩⟩
         case rest =>
          clear cp;(try clear p2);(try clear bF);(try clear bK);(try clear bM);(try clear c7);(try clear c9);(try clear aD);(try clear bG);(try clear c11);(try clear aJ);(try clear c17);(try clear aW);(try clear aX);(try clear c18);(try clear aY);(try clear aZ);(try clear c24);(try clear ar);(try clear aK);(try clear c25);(try clear bb);(try clear be);(try clear c26);(try clear bf);(try clear bg);(try clear bh);(try clear bi);(try clear p29);(try clear q29);(try clear aH);(try clear ae);(try clear am);(try clear aj);(try clear aq);(try clear ay);(try clear aN);(try clear aT);(try clear az);(try clear aQ);(try clear aU);obtain⟨kq,ap,HA,HJ18,aV,ab,HB⟩:=hcut;rcases kq with _|cw
          · exact absurd HA.out (by simp[impl_LimitedLengths.j2])
          revert HA;refine aoR ?_;intro H;simp only[impl_LimitedLengths.j2]at H;revert H
          refine ifB (fun c32=>?_) (fun c32=>?_)
          · intro H;have bo:=zN c32;have bq:decide (t611.length<2)=true:=zN (by omega);clear c32;simp only[zL,zM]at H;obtain⟨rfl,rfl⟩:=H;go_wp2
            go_ret2;exact⟨_,eE,zA ab.out,hB⟩
          · intro H;have bo:=zO c32;have bq:decide (t611.length<2)=false:=zO (by omega);clear c32;revert H;refine adR fun H'=>?_;go_wp2
            go_loopg [11,61] cw (fun kq v11 v61 w' => ∃ (ak:List (S141)) (br:Int),v61 = .int .i64 br∧Aside0 (impl_LimitedLengths.l1 kq t611 (t611.length:Int) ap ak (wrap64 (a1-1)) br=some (r1,r2))∧Aside0 (kq≤cw)∧Aside0 (Kd.N k141 141 w' w.heap.size (fun k_=>some k_≠(aA:Value).ownBlock) (.slice cd t611.length bT) t611)∧Aside0 (Kd.R (Kd.int .i64) 3 w' w.heap.size (fun _=>True) aA ap)∧Aside0 (Kd.N k141 141 w' w.heap.size (fun k_=>some k_≠(aA:Value).ownBlock) v11 ak)∧Aside0 (Below w.heap.size w w'))
            case atStart=>exact⟨(t611),(0),eQ,H',⟨zI _⟩,⟨zc aV.out⟩,⟨zA ab.out⟩,⟨zc aV.out⟩,⟨hB⟩⟩
            case round =>
             clear H';(try clear p2);(try clear bF);(try clear bK);(try clear bM);(try clear c7);(try clear c9);(try clear aD);(try clear bG);(try clear c11);(try clear aJ);(try clear c17);(try clear aW);(try clear aX);(try clear c18);(try clear aY);(try clear aZ);(try clear c24);(try clear ar);(try clear aK);(try clear c25);(try clear bb);(try clear be);(try clear c26);(try clear bf);(try clear bg);(try clear bh);(try clear bi);(try clear p29);(try clear q29);(try clear c32);(try clear bo);(try clear bq);(try clear aH);(try clear ae);(try clear am);(try clear aj);(try clear aq);(try clear ay);(try clear aN);(try clear aT);(try clear az);(try clear aQ);(try clear aU);obtain⟨ak,br,rfl,HA,HK4,aV,ab,aw,HB⟩:=hrel;rcases gk with _|k4
             · exact absurd HA.out (by simp[impl_LimitedLengths.l1])
             revert HA;refine aoR ?_;intro H;simp only[impl_LimitedLengths.l1]at H;revert H
             refine iB (fun bP=>?_) (fun bP=>?_)
             · refine bdR fun t621 A34=>?_;refine adR fun H'=>?_;obtain⟨cU,cW,cX⟩:=Kd.N_slice aw.out;subst cX
               go_wp2_with (first|(refine gL (some 65) Try.func101 #[.slice cd t611.length bT,.slice cU ak.length cW] ?_;(with_reducible refine(impl_nextCoins.calls k4 (fun k_=>some k_≠(aA:Value).ownBlock) _ _ t611 _ _ ak t621 _ ?s1 ?s2 ?s3 A34.out).mono ?_);(case s1=>exact Kd.N_V (aV.out));(case s2=>exact Kd.C_i (Kd.N_reads' aw.out).2.2);(case s3=>exact(Kd.N_reads' aw.out).2.1);rintro e w36 ⟨dy,rfl,ho0,hb⟩;refine⟨_,rfl,?_⟩;replace aV:=aM (z2 (zc aV.out) (Kd.N_base ho0) hb);replace aw:=aM (z2 (zc aw.out) (Kd.N_base ho0) hb);have cx:=aM (z3 (zr (ok':=fun k_=>some k_≠(aA:Value).ownBlock) ho0 (fun k_ hk_=>Or.elim hk_ (fun hs_=>hs_) (fun hn_=>(zm (zX (zA ab.out)) k_ hn_)))) (zD hB));replace ab:=Kd.wR ab hb;replace HB:=hS hb;clear hb ho0));go_roundg k4
               case measure=>have:=HK1.out;have:=HJ7.out;have:=HJ18.out;have:=HK4.out;omega
               case rel=>exact⟨(t621),(wrap64 (br+1)),eQ,H',⟨by have:=HK1.out;have:=HJ7.out;have:=HJ18.out;have:=HK4.out;omega⟩,⟨zc (zr aV.out (fun _ hk=>hk.1))⟩,⟨zA ab.out⟩,⟨zc cx.out⟩,⟨hB⟩⟩
             · intro H;obtain⟨aI,bu⟩:∃ j_:Int,(wrap64 ((wrap64 (2*(t611.length:Int)))-2))=j_:=⟨_,rfl⟩;replace H:(if 0≤(aI)then(if(aI)≤(ak.length:Int)then((some (ak.take ((aI):Int).toNat:List (S141))).bind fun y624=>(impl_LimitedLengths.l2 k4 ap y624 (y624.length:Int) 0))else(none))else(none))=some (r1,r2):=by first|(rw[bu]at H;exact H)|(simp only[bu]at H ⊢;exact H)
               have cY:(IntKind.i64.wrap ((wrap64 (2*(t611.length:Int)))-2))=aI:=(i64_w _).trans bu;revert H;refine ifR fun c38=>?_;intro H;have bZ:=zB c38;have b0:=zN c38;clear c38;revert H;refine ifR fun c39=>?_;intro H;have b6:=zB c39;have b7:=zN c39;clear c39;obtain⟨y624,hy_⟩:∃ y_:List (S141),y_=(ak.take ((aI):Int).toNat):=⟨_,rfl⟩;replace H:(impl_LimitedLengths.l2 k4 ap y624 (y624.length:Int) 0)=some (r1,r2):=nH;have b8:=aM hy_;clear hy_;revert H;refine adR fun H'=>?_;obtain⟨bU,bJ,cZ⟩:=Kd.N_slice aw.out;subst cZ;have q40:((aI):Int)≤((ak.length:Int):Int):=bD;obtain⟨i040,hi040,_,hsz40,_⟩:=info_parts info141;have hroom40:ak.length≤bJ:=(Kd.N_reads' aw.out).2.1;have hC40:Kd.F k141 _ _ bU ak.length ak:=(Kd.V_at (base:=w.heap.size) (Kd.N_V aw.out)).2.2;have hcut40:=cut_to (P:=Try.prog) 138 141 .i64 Try.underlying138 hi040 bU ak.length bJ (aI) (bD) q40 hroom40;have hr40:=Kd.F_take (m:=((aI):Int).toNat) hC40 (by omega);have hy40:y624.length=((aI):Int).toNat:=(by rw[b8.out,zd];omega)
               rw[← b8.out]at hr40
               rw[← hy40]at hcut40;have cy:=aM (show Kd.V k141 141 _ w.heap.size _ (.slice bU y624.length bJ) y624 from ZD (by omega) hr40);have dl:=aM (show y624.length≤bJ from by omega);clear hr40 hC40 hroom40 hi040 hsz40;have KY40:=aM hy40;clear hy40;replace q40:=zB q40;go_wp2
               go_loopg [73] k4 (fun kq v73 w' => ∃ (bv:List Int) (aa:Int),v73 = .int .i64 aa∧Aside0 (impl_LimitedLengths.l2 kq bv y624 (y624.length:Int) aa=some (r1,r2))∧Aside0 (kq≤k4)∧Aside0 (Kd.R (Kd.int .i64) 3 w' w.heap.size (fun _=>True) aA bv)∧Aside0 (Kd.V k141 141 w' w.heap.size (fun k_=>some k_≠(aA:Value).ownBlock) (.slice bU y624.length bJ) y624)∧Aside0 (Below w.heap.size w w'))
               case atStart=>exact⟨(ap),(0),eQ,H',⟨zI _⟩,⟨zA ab.out⟩,⟨z1 cy.out⟩,⟨hB⟩⟩
               case round =>
                clear H';(try clear p2);(try clear bF);(try clear bK);(try clear bM);(try clear c7);(try clear c9);(try clear aD);(try clear bG);(try clear c11);(try clear aJ);(try clear c17);(try clear aW);(try clear aX);(try clear c18);(try clear aY);(try clear aZ);(try clear c24);(try clear ar);(try clear aK);(try clear c25);(try clear bb);(try clear be);(try clear c26);(try clear bf);(try clear bg);(try clear bh);(try clear bi);(try clear p29);(try clear q29);(try clear c32);(try clear bo);(try clear bq);(try clear bP);(try clear c38);(try clear bZ);(try clear b0);(try clear c39);(try clear b6);(try clear b7);(try clear q40);(try clear aH);(try clear ae);(try clear am);(try clear aj);(try clear aq);(try clear ay);(try clear aN);(try clear aT);(try clear az);(try clear aQ);(try clear aU);obtain⟨bv,aa,rfl,HA,HK5,ab,ao,HB⟩:=hrel;rcases gk with _|k5
                · exact absurd HA.out (by simp[impl_LimitedLengths.l2])
                revert HA;refine aoR ?_;intro H;simp only[impl_LimitedLengths.l2]at H;revert H
                refine iB (fun b9=>?_) (fun b9=>?_)
                · refine iR fun cz=>?_;refine iR fun cA=>?_;refine adR fun H'=>?_;have bQ:0≤(aa:Int):=bD;have bR:aa<(y624.length:Int):=bD;obtain⟨cC,aC,av,da,bV,bw,bx,bz⟩:=at_T141 (Kd.V_reads' ao.out).2.2 aa bQ bR;cases da;obtain⟨ce629,hce629,hMe629,hcc629⟩:=Kd.V_get ao.out z141 aa bQ (by first|exact bR|exact bD|(have e_:=(Kd.V_reads' ao.out).1;omega));obtain⟨ua629_1,uc629_1,rfl,ul629_1,ge629_1⟩:=k141_openF hMe629;have hv629_1:=hcc629 1 _ rfl
                  rw[add_field _ _ 1 (by omega)]at hv629_1;replace hv629_1:=zC (hv629_1.symm.trans bw)
                  injection hv629_1 with hva_ hvn_ hvc_
                  rw[hva_]at ge629_1
                  rw[hvc_]at ul629_1;have af:=aM (show Kd.V (Kd.int .i64) 3 _ w.heap.size _ _ ((rd_T141 y624 aa).f1)from ZD ul629_1 ge629_1);clear hva_ hvn_ hvc_ ge629_1 ul629_1;clear hcc629 hce629;have au:=aM bz;have cK:=aM bx;clear bz bx;replace bQ:=zB bQ;replace bR:=zB bR
                  go_wp2_with (first|(refine bE 13 #[.int .i64 0,.slice none 0 0] 141 ?_;intro ag hg w45 hbox hb;replace ab:=Kd.wR ab hb;replace ao:=aM (Kd.V_below (Kd.V_elderB (z1 ao.out) ag (Nat.le_of_eq hg.symm)) hb);replace af:=aM (Kd.V_below (Kd.V_elderB (z1 af.out) ag (Nat.le_of_eq hg.symm)) hb);replace au:=aM (Kd.C_below (by repeat (first|(with_reducible exact au.out)|(with_reducible refine z5 ?_ _)|(with_reducible refine z4 ?_ _)|(with_reducible refine z6 ?_)|exact au.out)) hb);have ax:=aM hbox;have cD:=aM (sZ hg);have dm:=cD;replace HB:=hS hb;clear hb hbox hg;have db:=bz2 ax))
                  go_loopg [80] k5 (fun kq v80 w' => ∃ (ah:List Int) (ac:Int),v80 = .int .i64 ac∧Aside0 (impl_LimitedLengths.l3 kq ah y624 (y624.length:Int) aa ((rd_T141 y624 aa).f1) (((rd_T141 y624 aa).f1).length:Int) ac=some (r1,r2))∧Aside0 (kq≤k5)∧Aside0 (Kd.R (Kd.int .i64) 3 w' w.heap.size (fun _=>True) aA ah)∧Aside0 (Kd.V k141 141 w' w.heap.size (fun k_=>some k_≠(aA:Value).ownBlock∧k_≠ag) (.slice (some cC) y624.length bJ) y624)∧Aside0 (Kd.V (Kd.int .i64) 3 w' w.heap.size (fun k_=>some k_≠(aA:Value).ownBlock∧k_≠ag) (.slice aC ((rd_T141 y624 aa).f1).length av) ((rd_T141 y624 aa).f1))∧Aside0 (w'.heap[ag]? = some (.cells #[.int .i64 ((rd_T141 y624 aa).f0),(.slice aC ((rd_T141 y624 aa).f1).length av)] 141 (0,0)))∧Aside0 (Below w.heap.size w w'))
                  case atStart=>exact⟨(bv),(0),eQ,H',⟨zI _⟩,⟨zA (zH (zw (p:=⟨ag,1,none⟩) (zw (p:=⟨ag,0,none⟩) (zj ab.out ax.out (by decide)) (fun _ hk=>hk.2) (.int .i64 ((rd_T141 y624 aa).f0))) (fun _ hk=>hk.2) (.slice aC ((rd_T141 y624 aa).f1).length av)) (fun _ hk=>trivial))⟩,⟨z1 (zl (Kd.V_far (p:=⟨ag,1,none⟩) (Kd.V_far (p:=⟨ag,0,none⟩) (zl ao.out (fun k_ hk=>(⟨hk,hk.2⟩:_∧k_≠ag))) (fun _ hk=>hk.2) (.int .i64 ((rd_T141 y624 aa).f0))) (fun _ hk=>hk.2) (.slice aC ((rd_T141 y624 aa).f1).length av)) (fun _ hk=>⟨hk.1.1,hk.1.2⟩))⟩,⟨zl (Kd.V_far (p:=⟨ag,1,none⟩) (Kd.V_far (p:=⟨ag,0,none⟩) af.out (fun _ hk=>hk.2) (.int .i64 ((rd_T141 y624 aa).f0))) (fun _ hk=>hk.2) (.slice aC ((rd_T141 y624 aa).f1).length av)) (fun _ hk=>hk)⟩,⟨kB⟩,⟨hB⟩⟩
                  case round =>
                   clear H';(try clear p2);(try clear bF);(try clear bK);(try clear bM);(try clear c7);(try clear c9);(try clear aD);(try clear bG);(try clear c11);(try clear aJ);(try clear c17);(try clear aW);(try clear aX);(try clear c18);(try clear aY);(try clear aZ);(try clear c24);(try clear ar);(try clear aK);(try clear c25);(try clear bb);(try clear be);(try clear c26);(try clear bf);(try clear bg);(try clear bh);(try clear bi);(try clear p29);(try clear q29);(try clear c32);(try clear bo);(try clear bq);(try clear bP);(try clear c38);(try clear bZ);(try clear b0);(try clear c39);(try clear b6);(try clear b7);(try clear q40);(try clear b9);(try clear cz);(try clear cA);(try clear db);(try clear aH);(try clear ae);(try clear am);(try clear aj);(try clear aq);(try clear bV);(try clear bw);(try clear ay);(try clear aN);(try clear aT);(try clear bQ);(try clear az);(try clear aQ);(try clear aU);(try clear bR);obtain⟨ah,ac,rfl,HA,HK6,ab,ao,af,ax,HB⟩:=hrel;have au:=aM (Kd.V_reads' af.out).2.2;rcases gk with _|k6
                   · exact absurd HA.out (by simp[impl_LimitedLengths.l3])
                   revert HA;refine aoR ?_;intro H;simp only[impl_LimitedLengths.l3]at H;revert H
                   refine iB (fun cE=>?_) (fun cE=>?_)
                   · refine iR fun dn=>?_;refine iR fun dp=>?_;refine iR fun dq=>?_;refine iR fun dt=>?_;intro H;obtain⟨ch,hy_⟩:∃ y_:List Int,y_=(ah.set ((rd ((rd_T141 y624 aa).f1) ac):Int).toNat (wrap64 ((rd ah (rd ((rd_T141 y624 aa).f1) ac))+1))):=⟨_,rfl⟩;replace H:(impl_LimitedLengths.l3 k6 ch y624 (y624.length:Int) aa ((rd_T141 y624 aa).f1) (((rd_T141 y624 aa).f1).length:Int) (wrap64 (ac+1)))=some (r1,r2):=nH;have cF:=aM hy_;clear hy_;revert H;refine adR fun H'=>?_;have ci:0≤(ac:Int):=bD;have cj:ac<(((rd_T141 y624 aa).f1).length:Int):=bD;obtain⟨cG,dc,bA⟩:=zV au.out ac ci cj;cases dc
                     try replace bA:=cB0 HB bA
                     replace ci:=zB ci;replace cj:=zB cj;obtain⟨dz,bS,dd⟩:=zY ab.out;subst dd;have ck:0≤((rd ((rd_T141 y624 aa).f1) ac):Int):=bD;have cl:(rd ((rd_T141 y624 aa).f1) ac)<(ah.length:Int):=bD;obtain⟨du,de,bX⟩:=zV (zJ ab.out).2.2 (rd ((rd_T141 y624 aa).f1) ac) ck cl;cases de;replace ck:=zB ck;replace cl:=zB cl;have p52:0≤((rd ((rd_T141 y624 aa).f1) ac):Int):=bD;have q52:((rd ((rd_T141 y624 aa).f1) ac):Int)<((ah.length:Int):Int):=bD;obtain⟨go52,dA,cH,cI,gl52,cl52,HG52⟩:=Kd.R_form ab.out (by omega)
                     (first|cases cH|(injection cH with ea_ en_ ec_;(first|subst ea_|(injection ea_ with ea_;subst ea_));subst ec_;clear en_));have df:=aM cI;have dB:=aM HG52;clear cI gl52 HG52
                     (first|simp only[add_plain]at bX|skip);obtain⟨dg,dh⟩:=ZG 0 ab.out ((rd ((rd_T141 y624 aa).f1) ac):Int) p52 q52;replace p52:=zB p52;replace q52:=zB q52;have cm:=Kd.R_putg ab.out ((rd ((rd_T141 y624 aa).f1) ac):Int) (wrap64 ((rd ah (rd ((rd_T141 y624 aa).f1) ac))+1))
                     go_wp2_with (first|((with_reducible refine gate_store (t:=3) (p:=89) rfl ?_);refine store_event (t:=3) (p:=89) (v:=?vo_w55) (w1:=(wr.setCell ⟨go52,((rd ((rd_T141 y624 aa).f1) ac):Int).toNat,none⟩ (.int .i64 (wrap64 ((rd ah (rd ((rd_T141 y624 aa).f1) ac))+1))))) ?hg ?ho ?hn ?hr ?_;(case ho=>rfl);(case hg=>rfl);(case hn=>rfl);(case hr=>first|(go_simp;done)|(go_simp;rfl));intro w55 hw;have hg:wr.grownBy w55 (some go52):=(by rw[hw];exact cm.2);have hp_:Kd.R (Kd.int .i64) 3 w55 w.heap.size (fun _=>True) (.slice (some ⟨go52,0,none⟩) ah.length bS) ch:=(by rw[hw,cF.out];exact cm.1);clear cm;have n0_:=aM hp_;have n1_:=aM (zh (v:=(.slice (some ⟨go52,0,none⟩) ah.length bS)) (v1:=(.slice (some ⟨go52,0,none⟩) ah.length bS)) (ok:=(fun k_=>k_≠ag)) (z1 (zl ao.out (fun _ hk=>⟨hk.2,hk.1⟩))) hg (.inl rfl));have n2_:=aM (zf (g:=ag) (o:=.cells #[.int .i64 ((rd_T141 y624 aa).f0),.slice (some cG) ((rd_T141 y624 aa).f1).length av] 141 (0,0)) (bI ax.out) hg (zt ab.out ax.out (by decide)));have n3_:=aM ((by rw[hw];exact below_set (HB.out) df.out:Below w.heap.size w w55));have n9_:=aM (zh (v:=(.slice (some ⟨go52,0,none⟩) ah.length bS)) (v1:=(.slice (some ⟨go52,0,none⟩) ah.length bS)) (ok:=(fun k_=>k_≠ag)) (zl af.out (fun _ hk=>⟨hk.2,hk.1⟩)) hg (.inl rfl));clear af;have af:=n9_;clear n9_;clear ab;clear ao;clear ax;clear HB;have ab:=n0_;have ao:=n1_;have ax:=n2_;have HB:=n3_;clear n0_ n1_ n2_ n3_;clear hg hw hp_));go_roundg k6
                     case measure=>have:=HK1.out;have:=HJ7.out;have:=HJ18.out;have:=HK4.out;have:=HK5.out;have:=HK6.out;omega
                     case rel=>exact⟨(ch),(wrap64 (ac+1)),eQ,H',⟨by have:=HK1.out;have:=HJ7.out;have:=HJ18.out;have:=HK4.out;have:=HK5.out;have:=HK6.out;omega⟩,⟨zA ab.out⟩,⟨z1 (zl ao.out (fun _ hk=>⟨hk.2,hk.1⟩))⟩,⟨zl af.out (fun _ hk=>⟨hk.2,hk.1⟩)⟩,⟨bI ax.out⟩,⟨hB⟩⟩
                   · refine adR fun H'=>?_;go_wp2;go_roundg k6
                     case measure=>have:=HK1.out;have:=HJ7.out;have:=HJ18.out;have:=HK4.out;have:=HK5.out;have:=HK6.out;omega
                     case rel=>exact⟨(ah),(wrap64 (aa+1)),eQ,H',⟨by have:=HK1.out;have:=HJ7.out;have:=HJ18.out;have:=HK4.out;have:=HK5.out;have:=HK6.out;omega⟩,⟨zA ab.out⟩,⟨z1 (zl ao.out (fun _ hk=>hk.1))⟩,⟨hB⟩⟩
                · intro H;simp only[zL,zM]at H;obtain⟨rfl,rfl⟩:=H;go_wp2
                  go_ret2;exact⟨_,by first|rfl|(simp[errW_none,errW_some] <;> rfl)|(simp only[← bu];first|rfl|(simp[errW_none,errW_some] <;> rfl))|(simp[*,errW_none,errW_some] <;> rfl),zA ab.out,hB⟩
end Go.Proofs.Ytldiiicbgdfapaa.PFnExactWovenBlock
