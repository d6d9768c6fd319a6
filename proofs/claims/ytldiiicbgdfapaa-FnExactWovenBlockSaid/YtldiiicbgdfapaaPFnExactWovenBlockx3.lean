/- Walks of functions that the law reaches: each call comes to what the Lean function of its name tells. -/
import Derived.Test.YtldiiicbgdfapaaPFnExactWovenBlockx1
import Derived.Test.YtldiiicbgdfapaaPFnExactWovenBlockx2
namespace Go.Proofs.Ytldiiicbgdfapaa.PFnExactWovenBlock
open Go.RowKit Go.Proofs.YtldiiicbgdfapaaW.PrintWords Go.Proofs.YtldiiicbgdfapaaW.PrintLast Go.Proofs.YtldiiicbgdfapaaW.PrintMore
attribute [local go_sem] max2_int min2_int max_two min_two max_three min_three max_four min_four
set_option linter.unusedVariables false
set_option maxHeartbeats 8000000
set_option maxRecDepth 100000
set_option linter.unusedSimpArgs false
mutual
def spec_LimitedLengths.j0:Nat→List Int→Int→Bool→Option (List Int×Bool)
  | 0,_,_,_=>none
  | k+1,x0,x1,x6=>spec_LimitedLengths.l0 k x0 x1 x6 0 0
def spec_LimitedLengths.l0:Nat→List Int→Int→Bool→Int→Int→Option (List Int×Bool)
  | 0,_,_,_,_,_=>none
  | k+1,x0,x1,x6,x7,x8=>if x8<(x0.length:Int)then(spec_LimitedLengths.j2 k x0 x1 x6 x7 x8 x6)else(spec_LimitedLengths.j2 k x0 x1 x6 x7 x8 false)
def spec_LimitedLengths.j2:Nat→List Int→Int→Bool→Int→Int→Bool→Option (List Int×Bool)
  | 0,_,_,_,_,_,_=>none
  | k+1,x0,x1,x6,x7,x8,x28=>if x28=true then(if 0≤x8 then(if x8<(x0.length:Int)then((spec_l01In.f (rd x0 x8) 0 12000).bind fun t191=>(if(rd x0 x8)>0 then(spec_LimitedLengths.l0 k x0 x1 t191 (wrap64 (x7+1)) (wrap64 (x8+1)))else(spec_LimitedLengths.l0 k x0 x1 t191 x7 (wrap64 (x8+1)))))else(none))else(none))else(if x6=true then((spec_l01Pow.f k x1).bind fun t193=>(spec_LimitedLengths.j3 k x0 x1 x7 (decide (x7>t193))))else(spec_LimitedLengths.j3 k x0 x1 x7 true))
def spec_LimitedLengths.j3:Nat→List Int→Int→Int→Bool→Option (List Int×Bool)
  | 0,_,_,_,_=>none
  | k+1,x0,x1,x7,x50=>if x50=true then(some ((([]:List Int)),false))else(if 0≤(x0.length:Int)then(if((x0.length:Int):Int).toNat≤35184372088832 then((some (List.replicate ((x0.length:Int):Int).toNat 0:List Int)).bind fun y197=>((spec_l04First.f k x0).bind fun t200=>(if x7=1 then(if 0<(t200.length:Int)then(if 0<(((rd_T106 t200 0).f1).length:Int)then(if 0≤(rd ((rd_T106 t200 0).f1) 0)then(if(rd ((rd_T106 t200 0).f1) 0)<(y197.length:Int)then(spec_LimitedLengths.j4 k x1 x7 (y197.set ((rd ((rd_T106 t200 0).f1) 0):Int).toNat 1) t200)else(none))else(none))else(none))else(none))else(spec_LimitedLengths.j4 k x1 x7 y197 t200))))else(none))else(none))
def spec_LimitedLengths.j4:Nat→Int→Int→List Int→List (S106)→Option (List Int×Bool)
  | 0,_,_,_,_=>none
  | k+1,x1,x7,x9,x10=>if x7<2 then(some (x9,true))else(spec_LimitedLengths.l1 k x1 x7 x9 x10 x10 1)
def spec_LimitedLengths.l1:Nat→Int→Int→List Int→List (S106)→List (S106)→Int→Option (List Int×Bool)
  | 0,_,_,_,_,_,_=>none
  | k+1,x1,x7,x9,x10,x11,x12=>if x12<x1 then((spec_l04Next.f k x10 x11).bind fun t206=>(spec_LimitedLengths.l1 k x1 x7 x9 x10 t206 (wrap64 (x12+1))))else(spec_LimitedLengths.l2 k x7 x9 x11 0)
def spec_LimitedLengths.l2:Nat→Int→List Int→List (S106)→Int→Option (List Int×Bool)
  | 0,_,_,_,_=>none
  | k+1,x7,x9,x11,x13=>if x13<(wrap64 ((wrap64 (2*x7))-2))then(spec_LimitedLengths.l3 k x7 x9 x11 x13 0)else(some (x9,true))
def spec_LimitedLengths.l3:Nat→Int→List Int→List (S106)→Int→Int→Option (List Int×Bool)
  | 0,_,_,_,_,_=>none
  | k+1,x7,x9,x11,x13,x14=>if 0≤x13 then(if x13<(x11.length:Int)then(if x14<(((rd_T106 x11 x13).f1).length:Int)then(if 0≤x14 then(if 0≤(rd ((rd_T106 x11 x13).f1) x14)then(if(rd ((rd_T106 x11 x13).f1) x14)<(x9.length:Int)then(spec_LimitedLengths.l3 k x7 (x9.set ((rd ((rd_T106 x11 x13).f1) x14):Int).toNat (wrap64 ((rd x9 (rd ((rd_T106 x11 x13).f1) x14))+1))) x11 x13 (wrap64 (x14+1)))else(none))else(none))else(none))else(spec_LimitedLengths.l2 k x7 x9 x11 (wrap64 (x13+1))))else(none))else(none)
end
def spec_LimitedLengths.f (k:Nat) (l0:List Int) (a1:Int):Option (List Int×Bool):=if(l0.length:Int)≤288 then((spec_l01In.f a1 1 15).bind fun bY=>(spec_LimitedLengths.j0 k l0 a1 bY))else(spec_LimitedLengths.j0 k l0 a1 false)
def spec_LimitedLengths.T28:Bool×List (List Nat×List Nat):=(true,[([],[]),([],[]),([],[]),([1,2],[1,2]),([3],[3]),([4],[4]),([],[]),([5,6],[5,6]),([7],[7]),([],[]),([],[]),([],[]),([10,11],[10,11]),([12],[12]),([13],[13]),([],[]),([14,15],[14,15]),([16],[16]),([9,17],[9,17]),([18],[18]),([19],[19]),([0,8,0,1,2,3,4,5,6,7,8,9,10,11,12,13,14,15,16,17,18,19,20],[0,8]),([21,20,0,1,2,3,4,5,6,7,8,9,10,11,12,13,14,15,16,17,18,19,20],[20,21])])
def spec_LimitedLengths.B28:List Nat:=[0,0,0,6,14,30,0,126,254,0,0,0,3072,7168,15360,0,64512,130048,261632,523776,1048064,2097151,4194303]
theorem spec_LimitedLengths.tab28:rtab .any (opsOf Try.f22 28)=spec_LimitedLengths.T28:=by kernel_rfl
theorem spec_LimitedLengths.bits28:waitsOk spec_LimitedLengths.T28.2 spec_LimitedLengths.B28=true:=by kernel_rfl
theorem spec_LimitedLengths.calls (k:Nat) (A0:Option Addr) (c0:Nat) (l0:List Int) (a1:Int) (r1:List Int) (r2:Bool) (w:World) (hr0:Kd.C (Kd.int .i64) w A0 l0.length l0) (hc0:l0.length≤c0) (h:spec_LimitedLengths.f k l0 a1=some (r1,r2)) :
 Calls Try.prog 22 #[.slice A0 l0.length c0,.int .i64 a1] w fun e w' => ∃ v0_:Value,e = .returned (.tuple #[v0_,.bool r2])∧Kd.R (Kd.int .i64) 3 w' w.heap.size (fun _=>True) v0_ r1∧Below w.heap.size w w':=by
 have HR0:=aM hr0;have HC0:=aM hc0;clear hr0 hc0;have HB:=aM (zQ w.heap.size w);have H:(if(l0.length:Int)≤288 then((spec_l01In.f a1 1 15).bind fun bY=>(spec_LimitedLengths.j0 k l0 a1 bY))else(spec_LimitedLengths.j0 k l0 a1 false))=some (r1,r2):=h;clear h;revert H;refine adR fun HC3=>?_;go_enter Try.func22,Try.ntmps22
 go_upto_region 1 with (fail)
 go_cut [6] (fun v6 wc => ∃ (kq:Nat) (aQ:Bool),v6 = .bool aQ∧Aside0 (spec_LimitedLengths.j0 kq l0 a1 aQ=some (r1,r2))∧Aside0 (kq≤k)∧Aside0 (Below w.heap.size w wc))
 case first =>
  revert HC3;refine aoR ?_
  refine ifB (fun c4=>?_) (fun c4=>?_)
  · intro H;have av:=zN c4;have aV:decide (l0.length≤288)=true:=zN (by omega);clear c4
    (first|rw[av]|(simp only[i64_w,i32_w];rw[av])|skip);revert H;refine bdR fun bY A5=>?_;refine adR fun H'=>?_
    go_wp2_with (first|(go_at_call 62;(with_reducible refine(spec_l01In.calls a1 1 15 bY _ A5.out).mono ?_);rintro e w' ⟨rfl,⟨nd,rfl⟩⟩));go_meet
    case rel=>exact⟨_,(bY),eQ,H',⟨lE⟩,⟨hB⟩⟩
  · intro H;have av:=zO c4;have aV:decide (l0.length≤288)=false:=zO (by omega);clear c4
    (first|rw[av]|(simp only[i64_w,i32_w];rw[av])|skip);revert H;refine adR fun H'=>?_;go_wp2;go_meet
    case rel=>exact⟨_,(false),eQ,H',⟨lE⟩,⟨hB⟩⟩
 case rest =>
  clear HC3;(try clear p2);(try clear c4);(try clear av);(try clear aV);obtain⟨kq,aQ,rfl,HA,HJ2,HB⟩:=hcut;rcases kq with _|kj2
  · exact absurd HA.out (by simp[spec_LimitedLengths.j0])
  revert HA;refine aoR ?_;intro H;simp only[spec_LimitedLengths.j0]at H;revert H;refine adR fun H'=>?_;go_wp2
  go_loopg [6,7,8] kj2 (fun kq v6 v7 v8 w' => ∃ (aQ:Bool) (am:Int) (ah:Int),v6 = .bool aQ∧v7 = .int .i64 am∧v8 = .int .i64 ah∧Aside0 (spec_LimitedLengths.l0 kq l0 a1 aQ am ah=some (r1,r2))∧Aside0 (kq≤kj2)∧Aside0 (Below w.heap.size w w'))
  case atStart=>exact⟨(aQ),(0),(0),eQ,eQ,eQ,H',⟨zI _⟩,⟨hB⟩⟩
  case round =>
   clear H';(try clear p2);(try clear c4);(try clear av);(try clear aV);obtain⟨aQ,am,ah,rfl,rfl,rfl,HA,HK2,HB⟩:=hrel;rcases gk with _|k2
   · exact absurd HA.out (by simp[spec_LimitedLengths.l0])
   revert HA;refine aoR ?_;intro H;simp only[spec_LimitedLengths.l0]at H;revert H;refine adR fun HC6=>?_
   go_upto_region 4 with (fail)
   go_cut [28] (fun v28 wc => ∃ (kq:Nat) (b0:Bool),v28 = .bool b0∧Aside0 (spec_LimitedLengths.j2 kq l0 a1 aQ am ah b0=some (r1,r2))∧Aside0 (kq≤k2)∧Aside0 (Below w.heap.size w wc))
   case first =>
    revert HC6;refine aoR ?_
    refine ifB (fun c7=>?_) (fun c7=>?_)
    · intro H;have aK:=zN c7;clear c7
      (first|rw[aK]|(simp only[i64_w,i32_w];rw[aK])|skip);revert H;refine adR fun H'=>?_;go_wp2;go_meet
      case rel=>exact⟨_,(aQ),eQ,H',⟨by have:=HJ2.out;have:=HK2.out;first|omega|exact zI _⟩,⟨hB⟩⟩
    · intro H;have aK:=zO c7;clear c7
      (first|rw[aK]|(simp only[i64_w,i32_w];rw[aK])|skip);revert H;refine adR fun H'=>?_;go_wp2;go_meet
      case rel=>exact⟨_,(false),eQ,H',⟨by have:=HJ2.out;have:=HK2.out;first|omega|exact zI _⟩,⟨hB⟩⟩
   case rest =>
    clear HC6;(try clear p2);(try clear c4);(try clear av);(try clear aV);(try clear c7);(try clear aK);obtain⟨kq,b0,rfl,HA,HJ5,HB⟩:=hcut;rcases kq with _|kj5
    · exact absurd HA.out (by simp[spec_LimitedLengths.j2])
    revert HA;refine aoR ?_;intro H;simp only[spec_LimitedLengths.j2]at H;revert H
    refine bB (fun c8=>?_) (fun c8=>?_)
    · intro H;subst c8;revert H;refine iR fun b6=>?_;refine iR fun bg=>?_;refine bdR fun t191 A11=>?_
      refine iB (fun aT=>?_) (fun aT=>?_)
      · refine adR fun H'=>?_;have ay:0≤(ah:Int):=bD;have az:ah<(l0.length:Int):=bD;obtain⟨b7,cw,af⟩:=zV HR0.out ah ay az;cases cw;replace af:=cB0 HB af;replace ay:=zB ay;replace az:=zB az
        go_wp2_with (first|(refine gL (some 35) Try.func62 #[.int .i64 (rd l0 ah),.int .i64 0,.int .i64 12000] ?_;(with_reducible refine(spec_l01In.calls (rd l0 ah) 0 12000 t191 _ A11.out).mono ?_);rintro e w' ⟨rfl,⟨nd,rfl⟩⟩;refine⟨_,rfl,?_⟩;have aA:0≤(ah:Int):=bD;have aC:ah<(l0.length:Int):=bD;obtain⟨b8,cx,ag⟩:=zV HR0.out ah aA aC;obtain rfl:b7=b8:=(by injection cx);replace ag:=cB0 HB ag;replace aA:=zB aA;replace aC:=zB aC));go_roundg kj5
        case measure=>have:=HJ2.out;have:=HK2.out;have:=HJ5.out;omega
        case rel=>exact⟨(t191),(wrap64 (am+1)),(wrap64 (ah+1)),eQ,eQ,eQ,H',⟨by have:=HJ2.out;have:=HK2.out;have:=HJ5.out;omega⟩,⟨hB⟩⟩
      · refine adR fun H'=>?_;have ay:0≤(ah:Int):=bD;have az:ah<(l0.length:Int):=bD;obtain⟨b7,cw,af⟩:=zV HR0.out ah ay az;cases cw;replace af:=cB0 HB af;replace ay:=zB ay;replace az:=zB az
        go_wp2_with (first|(refine gL (some 35) Try.func62 #[.int .i64 (rd l0 ah),.int .i64 0,.int .i64 12000] ?_;(with_reducible refine(spec_l01In.calls (rd l0 ah) 0 12000 t191 _ A11.out).mono ?_);rintro e w' ⟨rfl,⟨nd,rfl⟩⟩;refine⟨_,rfl,?_⟩;have aA:0≤(ah:Int):=bD;have aC:ah<(l0.length:Int):=bD;obtain⟨b8,cx,ag⟩:=zV HR0.out ah aA aC;obtain rfl:b7=b8:=(by injection cx);replace ag:=cB0 HB ag;replace aA:=zB aA;replace aC:=zB aC));go_roundg kj5
        case measure=>have:=HJ2.out;have:=HK2.out;have:=HJ5.out;omega
        case rel=>exact⟨(t191),(am),(wrap64 (ah+1)),eQ,eQ,eQ,H',⟨by have:=HJ2.out;have:=HK2.out;have:=HJ5.out;omega⟩,⟨hB⟩⟩
    · intro H;subst c8;revert H;refine adR fun cN=>?_
      go_upto_region 9 with (fail)
      go_cut [50] (fun v50 wc => ∃ (kq:Nat) (bk:Bool),v50 = .bool bk∧Aside0 (spec_LimitedLengths.j3 kq l0 a1 am bk=some (r1,r2))∧Aside0 (kq≤kj5)∧Aside0 (Below w.heap.size w wc))
      case first =>
       revert cN;refine aoR ?_
       refine bB (fun c14=>?_) (fun c14=>?_)
       · intro H;subst c14;revert H;refine bdR fun t193 A15=>?_;refine adR fun H'=>?_
         go_wp2_with (first|(go_at_call 63;(with_reducible refine(spec_l01Pow.calls kj5 a1 t193 _ A15.out).mono ?_);rintro e w' ⟨rfl,⟨nd,rfl⟩⟩));go_meet
         case rel=>exact⟨_,(decide (am>t193)),eQ,H',⟨by have:=HJ2.out;have:=HK2.out;have:=HJ5.out;first|omega|exact zI _⟩,⟨hB⟩⟩
       · intro H;subst c14;revert H;refine adR fun H'=>?_;go_wp2;go_meet
         case rel=>exact⟨_,(true),eQ,H',⟨by have:=HJ2.out;have:=HK2.out;have:=HJ5.out;first|omega|exact zI _⟩,⟨hB⟩⟩
      case rest =>
       clear cN;(try clear p2);(try clear c4);(try clear av);(try clear aV);(try clear c7);(try clear aK);(try clear c8);(try clear b6);(try clear bg);(try clear aT);(try clear c14);(try clear af);(try clear ag);(try clear ay);(try clear aA);(try clear az);(try clear aC);obtain⟨kq,bk,rfl,HA,HJ12,HB⟩:=hcut;rcases kq with _|bZ
       · exact absurd HA.out (by simp[spec_LimitedLengths.j3])
       revert HA;refine aoR ?_;intro H;simp only[spec_LimitedLengths.j3]at H;revert H
       refine bB (fun c16=>?_) (fun c16=>?_)
       · intro H;subst c16;obtain⟨dl,hy_⟩:∃ y_:List Int,y_=(([]:List Int)):=⟨_,rfl⟩;replace H:(some (dl,false))=some (r1,r2):=nH;have cr:=aM hy_;clear hy_;simp only[zL,zM]at H;obtain⟨rfl,rfl⟩:=H
         go_wp2_with (first|((with_reducible refine gD 51 ?_);refine Kd.R_lit (Kd.int .i64) _ 3 ?hg (N:=51) ?hd (xs:=([]:List Int)) (inner:=[]) (ok:=fun _=>True) (okp:=fun _=>True) ?hr ?hp (fun _ hk=>hk) trivial (zQ _ _) (zI _) (by simp) ?_;(case hd=>rfl);(case hg=>rfl);(case hr=>first|(go_simp;done)|(go_simp;rfl));(case hp=>exact(Reps.none _ _));intro dZ w17 b9 hb hg_ hnew_;clear hg_ hnew_;(first|rw[← cr.out]at b9|(simp only[Int.reduceToNat]at b9;rw[← cr.out]at b9));have cO:=aM (zb b9 (zD hB));replace HB:=hS hb;clear hb b9))
         go_ret2;exact⟨_,eE,zA cO.out,hB⟩
       · intro H;subst c16;revert H;refine ifR fun c19=>?_;intro H;have bo:=zB c19;have bq:=zN c19;clear c19;revert H;refine ifR fun c20=>?_;intro H;have br:=zB c20;have bu:=zN c20;clear c20;obtain⟨y197,hy_⟩:∃ y_:List Int,y_=(List.replicate ((l0.length:Int):Int).toNat 0):=⟨_,rfl⟩;replace H:((spec_l04First.f bZ l0).bind fun t200=>(if am=1 then(if 0<(t200.length:Int)then(if 0<(((rd_T106 t200 0).f1).length:Int)then(if 0≤(rd ((rd_T106 t200 0).f1) 0)then(if(rd ((rd_T106 t200 0).f1) 0)<(y197.length:Int)then(spec_LimitedLengths.j4 bZ a1 am (y197.set ((rd ((rd_T106 t200 0).f1) 0):Int).toNat 1) t200)else(none))else(none))else(none))else(none))else(spec_LimitedLengths.j4 bZ a1 am y197 t200)))=some (r1,r2):=nH;have ct:=aM hy_;clear hy_;revert H;refine bdR fun t200 A21=>?_;refine adR fun cP=>?_
         go_upto_if 58 with (first|((with_reducible refine gD 54 ?_);refine Kd.R_make (Kd.int .i64) _ 3 rfl (N:=54) rfl 45 _ _ rfl (l0.length:Int) rfl rfl Try.underlying45 (.int .i64 0) 8 info3 rfl (by decide) (by omega) 0 (ok:=fun _=>True) (okp:=fun _=>True) rfl (fun _ hk=>hk) trivial (bD) (za (Nat.mul_le_mul_right _ (bD:(l0.length:Int).toNat≤35184372088832)) (by omega)) (zQ _ _) (zI _) ?_;intro aD w23 ca hb hg_ hnew_;clear hg_ hnew_;(first|rw[← ct.out]at ca|(simp only[Int.reduceToNat]at ca;rw[← ct.out]at ca));have ao:=aM (zb ca (zD hB));replace HB:=hS hb;clear hb ca)|(refine gL (some 56) Try.func64 #[.slice A0 l0.length c0] ?_;(with_reducible refine(spec_l04First.calls bZ _ _ l0 t200 _ (Kd.C_i (Kd.C_below HR0.out HB.out)) HC0.out A21.out).mono ?_);rintro e w25 ⟨cQ,rfl,ho0,hb⟩;refine⟨_,rfl,?_⟩;have aw:=aM (z3 (zr (ok':=fun k_=>some k_≠(aD:Value).ownBlock) ho0 (fun k_ hk_=>(zm (zX (zA ao.out)) k_ hk_))) (zD hB));replace ao:=Kd.wR ao hb;replace HB:=hS hb;clear hb ho0))
         (try simp only[Act.put,zE,zF,zG])
         go_cut [] (fun wc => ∃ (kq:Nat) (aU:List Int),Aside0 (spec_LimitedLengths.j4 kq a1 am aU t200=some (r1,r2))∧Aside0 (kq≤bZ)∧Aside0 (Kd.R (Kd.int .i64) 3 wc w.heap.size (fun _=>True) aD aU)∧Aside0 (Kd.N k106 106 wc w.heap.size (fun k_=>some k_≠(aD:Value).ownBlock) cQ t200)∧Aside0 (Below w.heap.size w wc))
         case first =>
          revert cP;refine aoR ?_
          refine ifB (fun c26=>?_) (fun c26=>?_)
          · intro H;have ap:=zT.mpr c26;have bh:=zP.mpr c26;clear c26
            (first|rw[ap]|(simp only[i64_w,i32_w];rw[ap])|skip);revert H;refine ifR fun c27=>?_;intro H;have bv:=zN c27;have bw:decide (0<t200.length)=true:=zN (by omega);clear c27;revert H;refine ifR fun c28=>?_;intro H;have bx:=zN c28;have bz:decide (0<((rd_T106 t200 0).f1).length)=true:=zN (by omega);clear c28;revert H;refine iR fun bA=>?_;refine iR fun bF=>?_;intro H;obtain⟨cy,hy_⟩:∃ y_:List Int,y_=(y197.set ((rd ((rd_T106 t200 0).f1) 0):Int).toNat 1):=⟨_,rfl⟩;replace H:(spec_LimitedLengths.j4 bZ a1 am cy t200)=some (r1,r2):=nH;have cR:=aM hy_;clear hy_;revert H;refine adR fun H'=>?_;obtain⟨d6,dm,dn⟩:=Kd.N_slice aw.out;subst dn;have bi:0≤(0:Int):=(by omega);have bj:0<(t200.length:Int):=bD;obtain⟨cS,dp,dq,dt,ak,ai,bG,bH⟩:=at_T106 (Kd.N_reads' aw.out).2.2 0 bi bj;cases dt;obtain⟨ce203,hce203,hMe203,hcc203⟩:=Kd.N_get aw.out z106 0 bi (by first|exact bj|exact bD|(have e_:=(Kd.N_reads' aw.out).1;omega));obtain⟨ua203_1,uc203_1,rfl,ul203_1,ge203_1⟩:=k106_openF hMe203;have hv203_1:=hcc203 1 _ rfl
            rw[add_field _ _ 1 (by omega)]at hv203_1;replace hv203_1:=zC (hv203_1.symm.trans ai)
            injection hv203_1 with hva_ hvn_ hvc_
            rw[hva_]at ge203_1
            rw[hvc_]at ul203_1;have bJ:=aM (show Kd.V (Kd.int .i64) 3 _ w.heap.size _ _ ((rd_T106 t200 0).f1)from ZD ul203_1 ge203_1);clear hva_ hvn_ hvc_ ge203_1 ul203_1;clear hcc203 hce203;have qi203:(0<t200.length)=True:=zB (by omega)
            (try rw[show((0:Int)).toNat=0 from rfl]at ak)
            (try rw[show 0*2=0 from rfl]at ak)
            (try rw[Addr.add_zero']at ak)
            (try rw[show((0:Int)).toNat=0 from rfl]at ai)
            (try rw[show 0*2=0 from rfl]at ai)
            (try rw[Addr.add_zero']at ai);have bK:=aM bH;have dg:=aM bG;clear bH bG;replace bi:=zB bi;replace bj:=zB bj;have bl:0≤(0:Int):=(by omega);have bn:0<(((rd_T106 t200 0).f1).length:Int):=bD;obtain⟨dR,du,an⟩:=zV (by repeat (first|(with_reducible exact bK.out)|(with_reducible refine z5 ?_ _)|(with_reducible refine z4 ?_ _)|(with_reducible refine z6 ?_)|exact bK.out)) 0 bl bn;cases du;have qi204:(0<((rd_T106 t200 0).f1).length)=True:=zB (by omega)
            (try rw[show((0:Int)).toNat=0 from rfl]at an)
            (try rw[Addr.add_zero']at an);replace bl:=zB bl;replace bn:=zB bn;have p31:0≤((rd ((rd_T106 t200 0).f1) 0):Int):=bD;have q31:((rd ((rd_T106 t200 0).f1) 0):Int)<((y197.length:Int):Int):=bD;obtain⟨go31,cd,cT,cU,gl31,cl31,HG31⟩:=Kd.R_form ao.out (by omega)
            (first|cases cT|(injection cT with ea_ en_ ec_;(first|subst ea_|(injection ea_ with ea_;subst ea_));subst ec_;clear en_));have dv:=aM cU;have d7:=aM HG31;clear cU gl31 HG31;obtain⟨aW,dw⟩:=ZG 0 ao.out ((rd ((rd_T106 t200 0).f1) 0):Int) p31 q31;replace p31:=zB p31;replace q31:=zB q31;have cz:=Kd.R_putg ao.out ((rd ((rd_T106 t200 0).f1) 0):Int) 1
            go_wp2_with (first|((with_reducible refine gate_store (t:=3) (p:=66) rfl ?_);refine store_event (t:=3) (p:=66) (v:=?vo_w34) (w1:=(w25.setCell ⟨go31,((rd ((rd_T106 t200 0).f1) 0):Int).toNat,none⟩ (.int .i64 1))) ?hg ?ho ?hn ?hr ?_;(case ho=>rfl);(case hg=>rfl);(case hn=>rfl);(case hr=>first|(go_simp;done)|(go_simp;rfl));intro w34 hw;have hg:w25.grownBy w34 (some go31):=(by rw[hw];exact cz.2);have hp_:Kd.R (Kd.int .i64) 3 w34 w.heap.size (fun _=>True) (.slice (some ⟨go31,0,none⟩) y197.length cd) cy:=(by rw[hw,cR.out];exact cz.1);clear cz;replace ao:=aM hp_;replace aw:=aM (Kd.N_afterv (v:=(.slice (some ⟨go31,0,none⟩) y197.length cd)) (v1:=(.slice (some ⟨go31,0,none⟩) y197.length cd)) (ok:=(fun _=>True)) (zc (zr aw.out (fun _ hk=>⟨trivial,hk⟩))) hg (.inl rfl));replace bJ:=aM (zh (v:=(.slice (some ⟨go31,0,none⟩) y197.length cd)) (v1:=(.slice (some ⟨go31,0,none⟩) y197.length cd)) (ok:=(fun k_=>some k_≠(.slice (some cS) t200.length dm:Value).ownBlock)) (z1 (zl bJ.out (fun _ hk=>⟨hk.2,hk.1⟩))) hg (.inl rfl));replace HB:=aM ((by rw[hw];exact below_set (HB.out) dv.out:Below w.heap.size w w34));clear hg hw hp_));go_meet
            case rel=>exact⟨_,(cy),H',⟨by have:=HJ2.out;have:=HK2.out;have:=HJ5.out;have:=HJ12.out;first|omega|exact zI _⟩,⟨zA ao.out⟩,⟨zc (zr aw.out (fun _ hk=>hk.2))⟩,⟨hB⟩⟩
          · intro H;have ap:=zK.mpr c26;have bh:=zU.mpr c26
            (first|rw[ap]|(simp only[i64_w,i32_w];rw[ap])|skip);revert H;refine adR fun H'=>?_;go_wp2;go_meet
            case rel=>exact⟨_,(y197),H',⟨by have:=HJ2.out;have:=HK2.out;have:=HJ5.out;have:=HJ12.out;first|omega|exact zI _⟩,⟨zA ao.out⟩,⟨zc aw.out⟩,⟨hB⟩⟩
         case rest =>
          clear cP;(try clear p2);(try clear c4);(try clear av);(try clear aV);(try clear c7);(try clear aK);(try clear c8);(try clear b6);(try clear bg);(try clear aT);(try clear c14);(try clear c16);(try clear c19);(try clear bo);(try clear bq);(try clear c20);(try clear br);(try clear bu);(try clear c26);(try clear ap);(try clear bh);(try clear c27);(try clear bv);(try clear bw);(try clear c28);(try clear bx);(try clear bz);(try clear bA);(try clear bF);(try clear p31);(try clear q31);(try clear af);(try clear ag);(try clear ak);(try clear ai);(try clear an);(try clear aW);(try clear ay);(try clear aA);(try clear bi);(try clear bl);(try clear az);(try clear aC);(try clear bj);(try clear bn);obtain⟨kq,aU,HA,HJ21,aj,ax,HB⟩:=hcut;rcases kq with _|cW
          · exact absurd HA.out (by simp[spec_LimitedLengths.j4])
          revert HA;refine aoR ?_;intro H;simp only[spec_LimitedLengths.j4]at H;revert H
          refine iB (fun bM=>?_) (fun bM=>?_)
          · intro H;simp only[zL,zM]at H;obtain⟨rfl,rfl⟩:=H;go_wp2
            go_ret2;exact⟨_,eE,zA aj.out,hB⟩
          · refine adR fun H'=>?_;go_wp2
            go_loopg [11,12] cW (fun kq v11 v12 w' => ∃ (ab:List (S106)) (bN:Int),v12 = .int .i64 bN∧Aside0 (spec_LimitedLengths.l1 kq a1 am aU t200 ab bN=some (r1,r2))∧Aside0 (kq≤cW)∧Aside0 (Kd.R (Kd.int .i64) 3 w' w.heap.size (fun _=>True) aD aU)∧Aside0 (Kd.N k106 106 w' w.heap.size (fun k_=>some k_≠(aD:Value).ownBlock) cQ t200)∧Aside0 (Kd.N k106 106 w' w.heap.size (fun k_=>some k_≠(aD:Value).ownBlock) v11 ab)∧Aside0 (Below w.heap.size w w'))
            case atStart=>exact⟨(t200),(1),eQ,H',⟨zI _⟩,⟨zA aj.out⟩,⟨zc ax.out⟩,⟨zc ax.out⟩,⟨hB⟩⟩
            case round =>
             clear H';(try clear p2);(try clear c4);(try clear av);(try clear aV);(try clear c7);(try clear aK);(try clear c8);(try clear b6);(try clear bg);(try clear aT);(try clear c14);(try clear c16);(try clear c19);(try clear bo);(try clear bq);(try clear c20);(try clear br);(try clear bu);(try clear c26);(try clear ap);(try clear bh);(try clear c27);(try clear bv);(try clear bw);(try clear c28);(try clear bx);(try clear bz);(try clear bA);(try clear bF);(try clear p31);(try clear q31);(try clear bM);(try clear af);(try clear ag);(try clear ak);(try clear ai);(try clear an);(try clear aW);(try clear ay);(try clear aA);(try clear bi);(try clear bl);(try clear az);(try clear aC);(try clear bj);(try clear bn);obtain⟨ab,bN,rfl,HA,HK6,aj,ax,ae,HB⟩:=hrel;rcases gk with _|k6
             · exact absurd HA.out (by simp[spec_LimitedLengths.l1])
             revert HA;refine aoR ?_;intro H;simp only[spec_LimitedLengths.l1]at H;revert H
             refine iB (fun ce=>?_) (fun ce=>?_)
             · refine bdR fun t206 A37=>?_;refine adR fun H'=>?_;obtain⟨dx,dy,dz⟩:=Kd.N_slice ax.out;subst dz;obtain⟨dA,dB,dC⟩:=Kd.N_slice ae.out;subst dC
               go_wp2_with (first|(refine gL (some 78) Try.func65 #[.slice dx t200.length dy,.slice dA ab.length dB] ?_;(with_reducible refine(spec_l04Next.calls k6 (fun k_=>some k_≠(aD:Value).ownBlock) _ _ t200 _ _ ab t206 _ ?s1 ?s2 ?s3 A37.out).mono ?_);(case s1=>exact Kd.N_V (ax.out));(case s2=>exact Kd.C_i (Kd.N_reads' ae.out).2.2);(case s3=>exact(Kd.N_reads' ae.out).2.1);rintro e w40 ⟨d8,rfl,ho0,hb⟩;refine⟨_,rfl,?_⟩;replace ax:=aM (z2 (zc ax.out) (Kd.N_base ho0) hb);replace ae:=aM (z2 (zc ae.out) (Kd.N_base ho0) hb);have cX:=aM (z3 (zr (ok':=fun k_=>some k_≠(aD:Value).ownBlock) ho0 (fun k_ hk_=>Or.elim hk_ (fun hs_=>hs_) (fun hn_=>(zm (zX (zA aj.out)) k_ hn_)))) (zD hB));replace aj:=Kd.wR aj hb;replace HB:=hS hb;clear hb ho0));go_roundg k6
               case measure=>have:=HJ2.out;have:=HK2.out;have:=HJ5.out;have:=HJ12.out;have:=HJ21.out;have:=HK6.out;omega
               case rel=>exact⟨(t206),(wrap64 (bN+1)),eQ,H',⟨by have:=HJ2.out;have:=HK2.out;have:=HJ5.out;have:=HJ12.out;have:=HJ21.out;have:=HK6.out;omega⟩,⟨zA aj.out⟩,⟨zc (zr ax.out (fun _ hk=>hk.1))⟩,⟨zc cX.out⟩,⟨hB⟩⟩
             · refine adR fun H'=>?_;go_wp2
               go_loopg [13] k6 (fun kq v13 w' => ∃ (ch:List Int) (aa:Int),v13 = .int .i64 aa∧Aside0 (spec_LimitedLengths.l2 kq am ch ab aa=some (r1,r2))∧Aside0 (kq≤k6)∧Aside0 (Kd.R (Kd.int .i64) 3 w' w.heap.size (fun _=>True) aD ch)∧Aside0 (Kd.N k106 106 w' w.heap.size (fun k_=>some k_≠(aD:Value).ownBlock) u11 ab)∧Aside0 (Below w.heap.size w w'))
               case atStart=>exact⟨(aU),(0),eQ,H',⟨zI _⟩,⟨zA aj.out⟩,⟨zc ae.out⟩,⟨hB⟩⟩
               case round =>
                clear H';(try clear p2);(try clear c4);(try clear av);(try clear aV);(try clear c7);(try clear aK);(try clear c8);(try clear b6);(try clear bg);(try clear aT);(try clear c14);(try clear c16);(try clear c19);(try clear bo);(try clear bq);(try clear c20);(try clear br);(try clear bu);(try clear c26);(try clear ap);(try clear bh);(try clear c27);(try clear bv);(try clear bw);(try clear c28);(try clear bx);(try clear bz);(try clear bA);(try clear bF);(try clear p31);(try clear q31);(try clear bM);(try clear ce);(try clear af);(try clear ag);(try clear ak);(try clear ai);(try clear an);(try clear aW);(try clear ay);(try clear aA);(try clear bi);(try clear bl);(try clear az);(try clear aC);(try clear bj);(try clear bn);obtain⟨ch,aa,rfl,HA,HK7,aj,ae,HB⟩:=hrel;rcases gk with _|k7
                · exact absurd HA.out (by simp[spec_LimitedLengths.l2])
                revert HA;refine aoR ?_;intro H;simp only[spec_LimitedLengths.l2]at H;revert H
                refine iB (fun cu=>?_) (fun cu=>?_)
                · refine adR fun H'=>?_;go_wp2
                  go_loopg [14] k7 (fun kq v14 w' => ∃ (aN:List Int) (ac:Int),v14 = .int .i64 ac∧Aside0 (spec_LimitedLengths.l3 kq am aN ab aa ac=some (r1,r2))∧Aside0 (kq≤k7)∧Aside0 (Kd.R (Kd.int .i64) 3 w' w.heap.size (fun _=>True) aD aN)∧Aside0 (Kd.N k106 106 w' w.heap.size (fun k_=>some k_≠(aD:Value).ownBlock) u11 ab)∧Aside0 (Below w.heap.size w w'))
                  case atStart=>exact⟨(ch),(0),eQ,H',⟨zI _⟩,⟨zA aj.out⟩,⟨zc ae.out⟩,⟨hB⟩⟩
                  case round =>
                   clear H';(try clear p2);(try clear c4);(try clear av);(try clear aV);(try clear c7);(try clear aK);(try clear c8);(try clear b6);(try clear bg);(try clear aT);(try clear c14);(try clear c16);(try clear c19);(try clear bo);(try clear bq);(try clear c20);(try clear br);(try clear bu);(try clear c26);(try clear ap);(try clear bh);(try clear c27);(try clear bv);(try clear bw);(try clear c28);(try clear bx);(try clear bz);(try clear bA);(try clear bF);(try clear p31);(try clear q31);(try clear bM);(try clear ce);(try clear cu);(try clear af);(try clear ag);(try clear ak);(try clear ai);(try clear an);(try clear aW);(try clear ay);(try clear aA);(try clear bi);(try clear bl);(try clear az);(try clear aC);(try clear bj);(try clear bn);obtain⟨aN,ac,rfl,HA,HK8,aj,ae,HB⟩:=hrel;rcases gk with _|k8
                   · exact absurd HA.out (by simp[spec_LimitedLengths.l3])
                   revert HA;refine aoR ?_;intro H;simp only[spec_LimitedLengths.l3]at H;revert H;refine iR fun dS=>?_;refine iR fun dT=>?_;intro H;revert H
                   refine iB (fun cY=>?_) (fun cY=>?_)
                   · refine iR fun dU=>?_;refine iR fun dV=>?_;refine iR fun dW=>?_;intro H;obtain⟨cZ,hy_⟩:∃ y_:List Int,y_=(aN.set ((rd ((rd_T106 ab aa).f1) ac):Int).toNat (wrap64 ((rd aN (rd ((rd_T106 ab aa).f1) ac))+1))):=⟨_,rfl⟩;replace H:(spec_LimitedLengths.l3 k8 am cZ ab aa (wrap64 (ac+1)))=some (r1,r2):=nH;have da:=aM hy_;clear hy_;revert H;refine adR fun H'=>?_;obtain⟨d9,ee,dD⟩:=Kd.N_slice ae.out;subst dD;have aX:0≤(aa:Int):=bD;have aY:aa<(ab.length:Int):=bD;obtain⟨aq,cA,cC,cD,ci,aZ,ar,au⟩:=at_T106 (Kd.N_reads' ae.out).2.2 aa aX aY;cases cD;obtain⟨ce209,hce209,hMe209,hcc209⟩:=Kd.N_get ae.out z106 aa aX (by first|exact aY|exact bD|(have e_:=(Kd.N_reads' ae.out).1;omega));obtain⟨ua209_1,uc209_1,rfl,ul209_1,ge209_1⟩:=k106_openF hMe209;have hv209_1:=hcc209 1 _ rfl
                     rw[add_field _ _ 1 (by omega)]at hv209_1;replace hv209_1:=zC (hv209_1.symm.trans aZ)
                     injection hv209_1 with hva_ hvn_ hvc_
                     rw[hva_]at ge209_1
                     rw[hvc_]at ul209_1;have aG:=aM (show Kd.V (Kd.int .i64) 3 _ w.heap.size _ _ ((rd_T106 ab aa).f1)from ZD ul209_1 ge209_1);clear hva_ hvn_ hvc_ ge209_1 ul209_1;clear hcc209 hce209;have aH:=aM au;have cj:=aM ar;clear au ar;replace aX:=zB aX;replace aY:=zB aY
                     try go_wp2
                     replace aj:=aM (zW aj.out);replace ae:=aM (Kd.N_drew ae.out);replace aG:=aM (Kd.V_drew aG.out);replace aH:=aM (z6 aH.out);replace HB:=aM (zy HB.out);have ck:0≤(aa:Int):=bD;have cl:aa<(ab.length:Int):=bD;obtain⟨db,dE,cg,dF,bO,aI,bP,bQ⟩:=at_T106 (Kd.N_reads' ae.out).2.2 aa ck cl;obtain rfl:aq=db:=(by injection dF);obtain⟨ce210,hce210,hMe210,hcc210⟩:=Kd.N_get ae.out z106 aa ck (by first|exact cl|exact bD|(have e_:=(Kd.N_reads' ae.out).1;omega));obtain⟨ua210_1,uc210_1,rfl,ul210_1,ge210_1⟩:=k106_openF hMe210;have hv210_1:=hcc210 1 _ rfl
                     rw[add_field _ _ 1 (by omega)]at hv210_1;replace hv210_1:=zC (hv210_1.symm.trans aI)
                     injection hv210_1 with hva_ hvn_ hvc_
                     rw[hva_]at ge210_1
                     rw[hvc_]at ul210_1;have cm:=aM (show Kd.V (Kd.int .i64) 3 _ w.heap.size _ _ ((rd_T106 ab aa).f1)from ZD ul210_1 ge210_1);clear hva_ hvn_ hvc_ ge210_1 ul210_1;clear hcc210 hce210;have bb:=aM bQ;have dh:=aM bP;clear bQ bP;replace ck:=zB ck;replace cl:=zB cl;have cE:0≤(ac:Int):=bD;have cF:ac<(((rd_T106 ab aa).f1).length:Int):=bD;obtain⟨bR,dG,bS⟩:=zV (by repeat (first|(with_reducible exact bb.out)|(with_reducible refine z5 ?_ _)|(with_reducible refine z4 ?_ _)|(with_reducible refine z6 ?_)|exact bb.out)) ac cE cF;cases dG;replace cE:=zB cE;replace cF:=zB cF;have cn:0≤(aa:Int):=bD;have cp:aa<(ab.length:Int):=bD;obtain⟨dc,dH,dI,dJ,bT,aJ,bU,bV⟩:=at_T106 (Kd.N_reads' ae.out).2.2 aa cn cp;obtain rfl:aq=dc:=(by injection dJ);obtain⟨ce212,hce212,hMe212,hcc212⟩:=Kd.N_get ae.out z106 aa cn (by first|exact cp|exact bD|(have e_:=(Kd.N_reads' ae.out).1;omega));obtain⟨ua212_1,uc212_1,rfl,ul212_1,ge212_1⟩:=k106_openF hMe212;have hv212_1:=hcc212 1 _ rfl
                     rw[add_field _ _ 1 (by omega)]at hv212_1;replace hv212_1:=zC (hv212_1.symm.trans aJ)
                     injection hv212_1 with hva_ hvn_ hvc_
                     rw[hva_]at ge212_1
                     rw[hvc_]at ul212_1;have cq:=aM (show Kd.V (Kd.int .i64) 3 _ w.heap.size _ _ ((rd_T106 ab aa).f1)from ZD ul212_1 ge212_1);clear hva_ hvn_ hvc_ ge212_1 ul212_1;clear hcc212 hce212;have be:=aM bV;have di:=aM bU;clear bV bU;replace cn:=zB cn;replace cp:=zB cp;have ea_:=zC (aI.symm.trans aJ)
                     injection ea_ with ea_ en_ ec_;subst ea_;subst ec_;clear en_;have cG:0≤(ac:Int):=bD;have cH:ac<(((rd_T106 ab aa).f1).length:Int):=bD;obtain⟨dX,dK,bX⟩:=zV (by repeat (first|(with_reducible exact be.out)|(with_reducible refine z5 ?_ _)|(with_reducible refine z4 ?_ _)|(with_reducible refine z6 ?_)|exact be.out)) ac cG cH;cases dK;replace cG:=zB cG;replace cH:=zB cH;obtain⟨ef,eh,dd⟩:=zY aj.out
                     (first|subst dd|(injection dd with f1_ f2_ f3_;have f4_:=f1_.symm;have f5_:=f3_.symm;clear f1_ f2_ f3_;subst f4_;subst f5_));have cI:0≤((rd ((rd_T106 ab aa).f1) ac):Int):=bD;have cJ:(rd ((rd_T106 ab aa).f1) ac)<(aN.length:Int):=bD;obtain⟨dY,dL,bf⟩:=zV (zJ aj.out).2.2 (rd ((rd_T106 ab aa).f1) ac) cI cJ;cases dL;replace cI:=zB cI;replace cJ:=zB cJ;have p48:0≤((rd ((rd_T106 ab aa).f1) ac):Int):=bD;have q48:((rd ((rd_T106 ab aa).f1) ac):Int)<((aN.length:Int):Int):=bD;obtain⟨go48,ei,de,df,gl48,cl48,HG48⟩:=Kd.R_form aj.out (by omega)
                     (first|cases de|(injection de with ea_ en_ ec_;(first|subst ea_|(injection ea_ with ea_;subst ea_));subst ec_;clear en_));have dM:=aM df;have dO:=aM HG48;clear df gl48 HG48
                     (first|simp only[add_plain]at bf|skip);obtain⟨cK,cL⟩:=ZG 0 aj.out ((rd ((rd_T106 ab aa).f1) ac):Int) p48 q48;replace p48:=zB p48;replace q48:=zB q48;have cM:=Kd.R_putn aj.out ((rd ((rd_T106 ab aa).f1) ac):Int) (wrap64 ((rd aN (rd ((rd_T106 ab aa).f1) ac))+1))
                     rw[← da.out]at cM;have HQ52:=aM cM;clear cM
                     refine start_ (n:=23) (S:=fun w'=>w'.cell? (aq.add ((aa).toNat*2))=some (.int .i64 ((rd_T106 ab aa).f0))∧w'.cell? ⟨(aq.add ((aa).toNat*2)).block,(aq.add ((aa).toNat*2)).off+1,none⟩=some (.slice (some bR) ((rd_T106 ab aa).f1).length cg)∧w'.cell? (bR.add (ac).toNat)=some (.int .i64 (rd ((rd_T106 ab aa).f1) ac))∧w'.cell? (aq.add ((aa).toNat*2))=some (.int .i64 ((rd_T106 ab aa).f0))∧w'.cell? ⟨(aq.add ((aa).toNat*2)).block,(aq.add ((aa).toNat*2)).off+1,none⟩=some (.slice (some bR) ((rd_T106 ab aa).f1).length cg)∧w'.cell? (bR.add (ac).toNat)=some (.int .i64 (rd ((rd_T106 ab aa).f1) ac))∧w'.cell? ⟨go48,((rd ((rd_T106 ab aa).f1) ac)).toNat,none⟩=some (.int .i64 (rd aN (rd ((rd_T106 ab aa).f1) ac)))) (ds:=[22]) (bAr 23 0) (by kernel_rfl) rfl rfl ⟨bO,aI,bS,bT,aJ,bX,bf⟩ (fun hHeld=>?_);refine with_tabW spec_LimitedLengths.tab28 spec_LimitedLengths.bits28 (fun HT_ HW_=>?_)
                     generalize wr.drew=w50 at aj ae aG aH HB dO cm cq HQ52 bb be cL bO aI bS bT aJ bX bf cK hHeld ⊢;refine pU 0 96 (bAr 23 1) ?_;refine pU 1 97 (bAr 23 3) ?_;refine pU 2 98 (bAr 23 7) ?_;refine pU 3 99 (bAr 23 15) ?_;refine pU 4 100 (bAr 23 31) ?_;refine pU 6 102 (bAr 23 95) ?_;refine pU 9 105 (bAr 23 607) ?_;refine pU 10 106 (bAr 23 1631) ?_;refine pU 11 107 (bAr 23 3679) ?_;refine pU 12 108 (bAr 23 7775) ?_;refine pU 13 109 (bAr 23 15967) ?_;refine pU 15 111 (bAr 23 48735) ?_
                     refine tK 5 101 (bAr 23 48767) ?_;refine pU 7 103 (bAr 23 48895) ?_
                     refine tK 8 104 (bAr 23 49151) ?_
                     refine tK 14 110 (bAr 23 65535) ?_;refine pU 16 112 (bAr 23 131071) ?_
                     refine tK 17 113 (bAr 23 262143) ?_;refine pU 18 114 (bAr 23 524287) ?_
                     refine tK 19 115 (bAr 23 1048575) ?_;refine pU 20 116 (bAr 23 2097151) ?_;refine pU 21 117 (bAr 23 4194303) ?_
                     refine last_ (i:=22) (N:=none) (bAr 23 8388607) rfl rfl (one_of HT_.out (by kernel_rfl)) (by decide) (fun K hK=>?_)
                     refine skip_ (w1:=?_) (by rfl) rfl ?_ ?_;rotate_left
                     · go_simp
                       rfl
                     refine hK.out _ _ ?_;clear hK K
                     refine done_ (done_of HT_.out (by kernel_rfl)) ?_
                     try go_wp2
                     go_roundg k8
                     case measure=>have:=HJ2.out;have:=HK2.out;have:=HJ5.out;have:=HJ12.out;have:=HJ21.out;have:=HK6.out;have:=HK7.out;have:=HK8.out;omega
                     case rel=>exact⟨(cZ),(wrap64 (ac+1)),eQ,H',⟨by have:=HJ2.out;have:=HK2.out;have:=HJ5.out;have:=HJ12.out;have:=HJ21.out;have:=HK6.out;have:=HK7.out;have:=HK8.out;omega⟩,⟨zA HQ52.out⟩,⟨zc (zr (Kd.N_far (p:=⟨go48,((rd ((rd_T106 ab aa).f1) ac):Int).toNat,none⟩) (zr ae.out (fun k_ hk=>(⟨hk,fun e_=>hk (by rw[e_];rfl)⟩:_∧k_≠go48))) (fun _ hk=>hk.2) (.int .i64 (wrap64 ((rd aN (rd ((rd_T106 ab aa).f1) ac))+1)))) (fun _ hk=>hk.1))⟩,⟨by repeat (first|(with_reducible first|exact HB.out|apply zz|apply zx|apply zy|refine below_set ?_ dM.out)|exact HB.out)⟩⟩
                   · refine adR fun H'=>?_;obtain⟨ek,ep,dP⟩:=Kd.N_slice ae.out;subst dP;have aX:0≤(aa:Int):=bD;have aY:aa<(ab.length:Int):=bD;obtain⟨aq,cA,cC,cD,ci,aZ,ar,au⟩:=at_T106 (Kd.N_reads' ae.out).2.2 aa aX aY;cases cD;obtain⟨ce209,hce209,hMe209,hcc209⟩:=Kd.N_get ae.out z106 aa aX (by first|exact aY|exact bD|(have e_:=(Kd.N_reads' ae.out).1;omega));obtain⟨ua209_1,uc209_1,rfl,ul209_1,ge209_1⟩:=k106_openF hMe209;have hv209_1:=hcc209 1 _ rfl
                     rw[add_field _ _ 1 (by omega)]at hv209_1;replace hv209_1:=zC (hv209_1.symm.trans aZ)
                     injection hv209_1 with hva_ hvn_ hvc_
                     rw[hva_]at ge209_1
                     rw[hvc_]at ul209_1;have aG:=aM (show Kd.V (Kd.int .i64) 3 _ w.heap.size _ _ ((rd_T106 ab aa).f1)from ZD ul209_1 ge209_1);clear hva_ hvn_ hvc_ ge209_1 ul209_1;clear hcc209 hce209;have aH:=aM au;have cj:=aM ar;clear au ar;replace aX:=zB aX;replace aY:=zB aY;go_wp2;go_roundg k8
                     case measure=>have:=HJ2.out;have:=HK2.out;have:=HJ5.out;have:=HJ12.out;have:=HJ21.out;have:=HK6.out;have:=HK7.out;have:=HK8.out;omega
                     case rel=>exact⟨(aN),(wrap64 (aa+1)),eQ,H',⟨by have:=HJ2.out;have:=HK2.out;have:=HJ5.out;have:=HJ12.out;have:=HJ21.out;have:=HK6.out;have:=HK7.out;have:=HK8.out;omega⟩,⟨zA aj.out⟩,⟨zc ae.out⟩,⟨hB⟩⟩
                · intro H;simp only[zL,zM]at H;obtain⟨rfl,rfl⟩:=H;go_wp2
                  go_ret2;exact⟨_,eE,zA aj.out,hB⟩
end Go.Proofs.Ytldiiicbgdfapaa.PFnExactWovenBlock
