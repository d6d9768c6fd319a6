/- Walks of functions that the law reaches: each call comes to what the Lean function of its name tells. -/
import Derived.Test.YtldiiicbgdfapaaPFnExactWovenBlockx6
namespace Go.Proofs.Ytldiiicbgdfapaa.PFnExactWovenBlock
open Go.RowKit Go.Proofs.YtldiiicbgdfapaaW.PrintWords Go.Proofs.YtldiiicbgdfapaaW.PrintLast Go.Proofs.YtldiiicbgdfapaaW.PrintMore
attribute [local go_sem] max2_int min2_int max_two min_two max_three min_three max_four min_four
set_option linter.unusedVariables false
set_option maxHeartbeats 8000000
set_option maxRecDepth 100000
set_option linter.unusedSimpArgs false
mutual
def spec_CodesOf.j0:Nat→List Int→Bool→Option (List Int×Bool)
  | 0,_,_=>none
  | k+1,x0,x16=>if x16=true then(some ((([]:List Int)),false))else(if 0≤(x0.length:Int)then(if((x0.length:Int):Int).toNat≤35184372088832 then(spec_CodesOf.l0 k x0 (List.replicate ((x0.length:Int):Int).toNat 0) 0 1)else(none))else(none))
def spec_CodesOf.l0:Nat→List Int→List Int→Int→Int→Option (List Int×Bool)
  | 0,_,_,_,_=>none
  | k+1,x0,x5,x6,x7=>if x7≤15 then(spec_CodesOf.l1 k x0 x5 (wrap64 (2*x6)) x7 0)else(some (x5,true))
def spec_CodesOf.l1:Nat→List Int→List Int→Int→Int→Int→Option (List Int×Bool)
  | 0,_,_,_,_,_=>none
  | k+1,x0,x5,x6,x7,x8=>if x8<(x0.length:Int)then(if 0≤x8 then(if(rd x0 x8)=x7 then(if x8<(x5.length:Int)then(spec_CodesOf.l1 k x0 (x5.set (x8:Int).toNat x6) (wrap64 (x6+1)) x7 (wrap64 (x8+1)))else(none))else(spec_CodesOf.l1 k x0 x5 x6 x7 (wrap64 (x8+1))))else(none))else(spec_CodesOf.l0 k x0 x5 x6 (wrap64 (x7+1)))
end
def spec_CodesOf.f (k:Nat) (l0:List Int):Option (List Int×Bool):=(spec_CodeKind.f k l0).bind fun ag=>(if ag=0 then(spec_CodesOf.j0 k l0 true)else(spec_CodesOf.j0 k l0 (ag == 5)))
theorem spec_CodesOf.calls (k:Nat) (A0:Option Addr) (c0:Nat) (l0:List Int) (r1:List Int) (r2:Bool) (w:World) (hr0:Kd.C (Kd.int .i64) w A0 l0.length l0) (hc0:l0.length≤c0) (h:spec_CodesOf.f k l0=some (r1,r2)) :
 Calls Try.prog 27 #[.slice A0 l0.length c0] w fun e w' => ∃ v0_:Value,e = .returned (.tuple #[v0_,.bool r2])∧Kd.R (Kd.int .i64) 3 w' w.heap.size (fun _=>True) v0_ r1∧Below w.heap.size w w':=by
 have HR0:=aM hr0;have HC0:=aM hc0;clear hr0 hc0;have HB:=aM (zQ w.heap.size w);have H:((spec_CodeKind.f k l0).bind fun ag=>(if ag=0 then(spec_CodesOf.j0 k l0 true)else(spec_CodesOf.j0 k l0 (ag == 5))))=some (r1,r2):=h;clear h;revert H;refine bdR fun ag A2=>?_;refine adR fun HC3=>?_;go_enter Try.func27,Try.ntmps27
 go_upto_region 2 with (first|(refine gL (some 10) Try.func23 #[.slice A0 l0.length c0] ?_;(with_reducible refine(spec_CodeKind.calls k _ _ l0 ag _ ?s1 HC0.out A2.out).mono ?_);(case s1=>exact Kd.C_i HR0.out);rintro e w' ⟨rfl,⟨nd,rfl⟩⟩;refine⟨_,rfl,?_⟩))
 (try simp only[Act.put,zE,zF,zG])
 go_cut [16] (fun v16 wc => ∃ (kq:Nat) (an:Bool),v16 = .bool an∧Aside0 (spec_CodesOf.j0 kq l0 an=some (r1,r2))∧Aside0 (kq≤k)∧Aside0 (Below w.heap.size w wc))
 case first =>
  revert HC3;refine aoR ?_
  refine ifB (fun c4=>?_) (fun c4=>?_)
  · intro H;have ac:=zT.mpr c4;have ak:=zP.mpr c4;clear c4
    (first|rw[ac]|(simp only[i64_w,i32_w];rw[ac])|skip);revert H;refine adR fun H'=>?_;go_wp2;go_meet
    case rel=>exact⟨_,(true),eQ,H',⟨lE⟩,⟨hB⟩⟩
  · intro H;have ac:=zK.mpr c4;have ak:=zU.mpr c4
    (first|rw[ac]|(simp only[i64_w,i32_w];rw[ac])|skip);revert H;refine adR fun H'=>?_;go_wp2;go_meet
    case rel=>exact⟨_,((ag == 5)),eQ,H',⟨lE⟩,⟨hB⟩⟩
 case rest =>
  clear HC3;(try clear c2);(try clear p2);(try clear c4);(try clear ac);(try clear ak);obtain⟨kq,an,rfl,HA,HJ2,HB⟩:=hcut;rcases kq with _|kj2
  · exact absurd HA.out (by simp[spec_CodesOf.j0])
  revert HA;refine aoR ?_;intro H;simp only[spec_CodesOf.j0]at H;revert H
  refine bB (fun c5=>?_) (fun c5=>?_)
  · intro H;subst c5;obtain⟨aX,hy_⟩:∃ y_:List Int,y_=(([]:List Int)):=⟨_,rfl⟩;replace H:(some (aX,false))=some (r1,r2):=nH;have ar:=aM hy_;clear hy_;simp only[zL,zM]at H;obtain⟨rfl,rfl⟩:=H
    go_wp2_with (first|((with_reducible refine gD 17 ?_);refine Kd.R_lit (Kd.int .i64) _ 3 ?hg (N:=17) ?hd (xs:=([]:List Int)) (inner:=[]) (ok:=fun _=>True) (okp:=fun _=>True) ?hr ?hp (fun _ hk=>hk) trivial (zQ _ _) (zI _) (by simp) ?_;(case hd=>rfl);(case hg=>rfl);(case hr=>first|(go_simp;done)|(go_simp;rfl));(case hp=>exact(Reps.none _ _));intro bl w6 ho7 hb hg_ hnew_;clear hg_ hnew_;(first|rw[← ar.out]at ho7|(simp only[Int.reduceToNat]at ho7;rw[← ar.out]at ho7));have az:=aM (zb ho7 (zD hB));replace HB:=hS hb;clear hb ho7))
    go_ret2;exact⟨_,eE,zA az.out,hB⟩
  · intro H;subst c5;revert H;refine ifR fun c8=>?_;intro H;have aA:=zB c8;have aC:=zN c8;clear c8;revert H;refine ifR fun c9=>?_;intro H;have aD:=zB c9;have aG:=zN c9;clear c9;obtain⟨aH,hy_⟩:∃ y_:List Int,y_=(List.replicate ((l0.length:Int):Int).toNat 0):=⟨_,rfl⟩;replace H:(spec_CodesOf.l0 kj2 l0 aH 0 1)=some (r1,r2):=nH;have au:=aM hy_;clear hy_;revert H;refine adR fun H'=>?_
    go_wp2_with (first|((with_reducible refine gD 20 ?_);refine Kd.R_make (Kd.int .i64) _ 3 rfl (N:=20) rfl 45 _ _ rfl (l0.length:Int) rfl rfl Try.underlying45 (.int .i64 0) 8 info3 rfl (by decide) (by omega) 0 (ok:=fun _=>True) (okp:=fun _=>True) rfl (fun _ hk=>hk) trivial (bD) (za (Nat.mul_le_mul_right _ (bD:(l0.length:Int).toNat≤35184372088832)) (by omega)) (zQ _ _) (zI _) ?_;intro aI w10 ao hb hg_ hnew_;clear hg_ hnew_;(first|rw[← au.out]at ao|(simp only[Int.reduceToNat]at ao;rw[← au.out]at ao));have aJ:=aM (zb ao (zD hB));replace HB:=hS hb;clear hb ao))
    go_loopg [6,7] kj2 (fun kq v6 v7 w' => ∃ (ap:List Int) (aq:Int) (am:Int),v6 = .int .i64 aq∧v7 = .int .i64 am∧Aside0 (spec_CodesOf.l0 kq l0 ap aq am=some (r1,r2))∧Aside0 (kq≤kj2)∧Aside0 (Kd.R (Kd.int .i64) 3 w' w.heap.size (fun _=>True) aI ap)∧Aside0 (Below w.heap.size w w'))
    case atStart=>exact⟨(aH),(0),(1),eQ,eQ,H',⟨zI _⟩,⟨zA aJ.out⟩,⟨hB⟩⟩
    case round =>
     clear H';(try clear c2);(try clear p2);(try clear c4);(try clear ac);(try clear ak);(try clear c5);(try clear c8);(try clear aA);(try clear aC);(try clear c9);(try clear aD);(try clear aG);obtain⟨ap,aq,am,rfl,rfl,HA,HK2,ae,HB⟩:=hrel;rcases gk with _|k2
     · exact absurd HA.out (by simp[spec_CodesOf.l0])
     revert HA;refine aoR ?_;intro H;simp only[spec_CodesOf.l0]at H;revert H
     refine iB (fun av=>?_) (fun av=>?_)
     · refine adR fun H'=>?_;go_wp2
       go_loopg [6,8] k2 (fun kq v6 v8 w' => ∃ (ah:List Int) (af:Int) (aa:Int),v6 = .int .i64 af∧v8 = .int .i64 aa∧Aside0 (spec_CodesOf.l1 kq l0 ah af am aa=some (r1,r2))∧Aside0 (kq≤k2)∧Aside0 (Kd.R (Kd.int .i64) 3 w' w.heap.size (fun _=>True) aI ah)∧Aside0 (Below w.heap.size w w'))
       case atStart=>exact⟨(ap),(wrap64 (2*aq)),(0),eQ,eQ,H',⟨zI _⟩,⟨zA ae.out⟩,⟨hB⟩⟩
       case round =>
        clear H';(try clear c2);(try clear p2);(try clear c4);(try clear ac);(try clear ak);(try clear c5);(try clear c8);(try clear aA);(try clear aC);(try clear c9);(try clear aD);(try clear aG);(try clear av);obtain⟨ah,af,aa,rfl,rfl,HA,HK3,ae,HB⟩:=hrel;rcases gk with _|k3
        · exact absurd HA.out (by simp[spec_CodesOf.l1])
        revert HA;refine aoR ?_;intro H;simp only[spec_CodesOf.l1]at H;revert H
        refine iB (fun aK=>?_) (fun aK=>?_)
        · refine iR fun bj=>?_;intro H;revert H
          refine iQ (fun aN aQ=>?_) (fun c15 aN aQ=>?_)
          · refine iR fun bk=>?_;intro H;obtain⟨aw,hy_⟩:∃ y_:List Int,y_=(ah.set (aa:Int).toNat af):=⟨_,rfl⟩;replace H:(spec_CodesOf.l1 k3 l0 aw (wrap64 (af+1)) am (wrap64 (aa+1)))=some (r1,r2):=nH;have aT:=aM hy_;clear hy_;revert H;refine adR fun H'=>?_;have ai:0≤(aa:Int):=bD;have aj:aa<(l0.length:Int):=bD;obtain⟨aU,ax,ab⟩:=zV HR0.out aa ai aj;cases ax;replace ab:=cB0 HB ab;replace ai:=zB ai;replace aj:=zB aj;have p17:0≤(aa:Int):=bD;have q17:(aa:Int)<((ah.length:Int):Int):=bD;obtain⟨go17,aY,aV,aW,gl17,cl17,HG17⟩:=Kd.R_form ae.out (by omega)
            (first|cases aV|(injection aV with ea_ en_ ec_;(first|subst ea_|(injection ea_ with ea_;subst ea_));subst ec_;clear en_));have aZ:=aM aW;have bn:=aM HG17;clear aW gl17 HG17;obtain⟨bb,be⟩:=ZG 0 ae.out (aa:Int) p17 q17;replace p17:=zB p17;replace q17:=zB q17;have ay:=Kd.R_putg ae.out (aa:Int) af
            go_wp2_with (first|((with_reducible refine gate_store (t:=3) (p:=42) rfl ?_);refine store_event (t:=3) (p:=42) (v:=?vo_w19) (w1:=(wr.setCell ⟨go17,(aa:Int).toNat,none⟩ (.int .i64 af))) ?hg ?ho ?hn ?hr ?_;(case ho=>rfl);(case hg=>rfl);(case hn=>rfl);(case hr=>first|(go_simp;done)|(go_simp;rfl));intro w19 hw;have hg:wr.grownBy w19 (some go17):=(by rw[hw];exact ay.2);have hp_:Kd.R (Kd.int .i64) 3 w19 w.heap.size (fun _=>True) (.slice (some ⟨go17,0,none⟩) ah.length aY) aw:=(by rw[hw,aT.out];exact ay.1);clear ay;replace ae:=aM hp_;replace HB:=aM ((by rw[hw];exact below_set (HB.out) aZ.out:Below w.heap.size w w19));clear hg hw hp_));go_roundg k3
            case measure=>have:=HJ2.out;have:=HK2.out;have:=HK3.out;omega
            case rel=>exact⟨(aw),(wrap64 (af+1)),(wrap64 (aa+1)),eQ,eQ,H',⟨by have:=HJ2.out;have:=HK2.out;have:=HK3.out;omega⟩,⟨zA ae.out⟩,⟨hB⟩⟩
          · refine adR fun H'=>?_;have ai:0≤(aa:Int):=bD;have aj:aa<(l0.length:Int):=bD;obtain⟨aU,ax,ab⟩:=zV HR0.out aa ai aj;cases ax;replace ab:=cB0 HB ab;replace ai:=zB ai;replace aj:=zB aj;go_wp2;go_roundg k3
            case measure=>have:=HJ2.out;have:=HK2.out;have:=HK3.out;omega
            case rel=>exact⟨(ah),(af),(wrap64 (aa+1)),eQ,eQ,H',⟨by have:=HJ2.out;have:=HK2.out;have:=HK3.out;omega⟩,⟨zA ae.out⟩,⟨hB⟩⟩
        · refine adR fun H'=>?_;go_wp2;go_roundg k3
          case measure=>have:=HJ2.out;have:=HK2.out;have:=HK3.out;omega
          case rel=>exact⟨(ah),(af),(wrap64 (am+1)),eQ,eQ,H',⟨by have:=HJ2.out;have:=HK2.out;have:=HK3.out;omega⟩,⟨zA ae.out⟩,⟨hB⟩⟩
     · intro H;simp only[zL,zM]at H;obtain⟨rfl,rfl⟩:=H;go_wp2
       go_ret2;exact⟨_,eE,zA ae.out,hB⟩
def spec_ExtraBits.f (a0:Int):Option (Int):=if a0=16 then(some 2)else(if a0=17 then(some 3)else(if a0=18 then(some 7)else(some 0)))
theorem spec_ExtraBits.calls (a0:Int) (r:Int) (w:World) (h:spec_ExtraBits.f a0=some r) :
 Calls Try.prog 28 #[.int .i64 a0] w fun e w'=>e = .returned (.int .i64 r)∧Drawn0 w w':=by
 have H:(if a0=16 then(some 2)else(if a0=17 then(some 3)else(if a0=18 then(some 7)else(some 0))))=some r:=h;clear h;revert H
 refine iQ (fun bf bg=>?_) (fun c2 bf bg=>?_)
 · intro H;obtain rfl:=zC H;go_enter Try.func28,Try.ntmps28;go_wp2;go_ret;exact⟨eQ,dQ⟩
 · intro H;revert H
   refine iQ (fun bh bi=>?_) (fun c3 bh bi=>?_)
   · intro H;obtain rfl:=zC H;go_enter Try.func28,Try.ntmps28;go_wp2;go_ret;exact⟨eQ,dQ⟩
   · intro H;revert H
     refine iQ (fun ac ak=>?_) (fun c4 ac ak=>?_)
     · intro H;obtain rfl:=zC H;go_enter Try.func28,Try.ntmps28;go_wp2;go_ret;exact⟨eQ,dQ⟩
     · intro H;obtain rfl:=zC H;go_enter Try.func28,Try.ntmps28;go_wp2;go_ret;exact⟨eQ,dQ⟩
end Go.Proofs.Ytldiiicbgdfapaa.PFnExactWovenBlock
