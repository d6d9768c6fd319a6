/- Walks of functions that the law reaches: each call comes to what the Lean function of its name tells. -/
import Derived.Test.YtldiiicbgdfapaaPFnExactWovenBlockx18
namespace Go.Proofs.Ytldiiicbgdfapaa.PFnExactWovenBlock
open Go.RowKit Go.Proofs.YtldiiicbgdfapaaW.PrintWords Go.Proofs.YtldiiicbgdfapaaW.PrintLast Go.Proofs.YtldiiicbgdfapaaW.PrintMore
attribute [local go_sem] max2_int min2_int max_two min_two max_three min_three max_four min_four
set_option linter.unusedVariables false
set_option maxHeartbeats 8000000
set_option maxRecDepth 100000
set_option linter.unusedSimpArgs false
def impl_RunsOf.l0:Nat→List Int→List (S52)→Int→Option ((List (S52))×Bool)
  | 0,_,_,_=>none
  | k+1,x0,x4,x5=>if x5<(x0.length:Int)then((impl_runAt.f k x0 x5).bind fun bt686=>(if x4.length<8796093022208 then(impl_RunsOf.l0 k x0 (x4++[(⟨bt686.1,bt686.2.1⟩:S52)]) (wrap64 (x5+bt686.2.2)))else(none)))else(some (x4,true))
def impl_RunsOf.f (k:Nat) (l0:List Int):Option ((List (S52))×Bool):=(impl_lengthsOk.f k l0 320).bind fun ah=>(if ah=true then(impl_RunsOf.l0 k l0 (([]:List (S52))) 0)else(some (([]:List (S52)),false)))
theorem impl_RunsOf.calls (k:Nat) (A0:Option Addr) (c0:Nat) (l0:List Int) (r1:List (S52)) (r2:Bool) (w:World) (hr0:Kd.C (Kd.int .i64) w A0 l0.length l0) (hc0:l0.length≤c0) (h:impl_RunsOf.f k l0=some (r1,r2)) :
 Calls Try.prog 34 #[.slice A0 l0.length c0] w fun e w' => ∃ v0_:Value,e = .returned (.tuple #[v0_,.bool r2])∧Kd.R k52 52 w' w.heap.size (fun _=>True) v0_ r1∧Below w.heap.size w w':=by
 have hu52:=Try.underlying52;have HR0:=aM hr0;have HC0:=aM hc0;clear hr0 hc0;have HB:=aM (zQ w.heap.size w);have H:((impl_lengthsOk.f k l0 320).bind fun ah=>(if ah=true then(impl_RunsOf.l0 k l0 (([]:List (S52))) 0)else(some (([]:List (S52)),false))))=some (r1,r2):=h;clear h;revert H;refine bdR fun ah A2=>?_
 refine bB (fun c3=>?_) (fun c3=>?_)
 · intro H;subst c3;obtain⟨am,hy_⟩:∃ y_:List (S52),y_=(([]:List (S52))):=⟨_,rfl⟩;replace H:(impl_RunsOf.l0 k l0 am 0)=some (r1,r2):=nH;have ai:=aM hy_;clear hy_;revert H;refine adR fun H'=>?_;go_enter Try.func34,Try.ntmps34
   go_wp2_with (first|(refine gL (some 9) Try.func74 #[.slice A0 l0.length c0,.int .i64 320] ?_;(with_reducible refine(impl_lengthsOk.calls k _ _ l0 320 true _ ?s1 HC0.out A2.out).mono ?_);(case s1=>exact Kd.C_i HR0.out);rintro e w' ⟨rfl,⟨nd,rfl⟩⟩;refine⟨_,rfl,?_⟩)|((with_reducible refine gD 11 ?_);refine Kd.R_lit k52 _ 52 ?hg (N:=11) ?hd (xs:=([]:List (S52))) (inner:=[]) (ok:=fun _=>True) (okp:=fun _=>True) ?hr ?hp (fun _ hk=>hk) trivial (zQ _ _) (zI _) (by simp) ?_;(case hd=>rfl);(case hg=>rfl);(case hr=>first|(go_simp;done)|(go_simp;rfl));(case hp=>exact(Reps.none _ _));intro ax w4 ho5 hb hg_ hnew_;clear hg_ hnew_;(first|rw[← ai.out]at ho5|(simp only[Int.reduceToNat]at ho5;rw[← ai.out]at ho5));have an:=aM (zb ho5 (zD hB));replace HB:=hS hb;clear hb ho5))
   go_loopg [4,5] k (fun kq v4 v5 w' => ∃ (ag:List (S52)) (af:Int),v5 = .int .i64 af∧Aside0 (impl_RunsOf.l0 kq l0 ag af=some (r1,r2))∧Aside0 (kq≤k)∧Aside0 (Kd.R k52 52 w' w.heap.size (fun _=>True) v4 ag)∧Aside0 (Below w.heap.size w w'))
   case atStart=>exact⟨(am),(0),eQ,H',⟨zI _⟩,⟨zA an.out⟩,⟨hB⟩⟩
   case round =>
    clear H';(try clear p2);(try clear c3);obtain⟨ag,af,rfl,HA,HK1,ab,HB⟩:=hrel;rcases gk with _|k1
    · exact absurd HA.out (by simp[impl_RunsOf.l0])
    revert HA;refine aoR ?_;intro H;simp only[impl_RunsOf.l0]at H;revert H
    refine iB (fun au=>?_) (fun au=>?_)
    · refine bdR fun⟨ac,ae,ak⟩ A7=>?_;intro H
      try dsimp only at H
      revert H;refine ifR fun c8=>?_;intro H;have av:=aM c8;clear c8;obtain⟨ao,hy_⟩:∃ y_:List (S52),y_=(ag++[(⟨ac,ae⟩:S52)]):=⟨_,rfl⟩;replace H:(impl_RunsOf.l0 k1 l0 ao (wrap64 (af+ak)))=some (r1,r2):=nH;have ap:=aM hy_;clear hy_;revert H;refine adR fun H'=>?_
      go_wp2_with (first|(refine gL (some 19) Try.func75 #[.slice A0 l0.length c0,.int .i64 af] ?_;(with_reducible refine(impl_runAt.calls k1 _ _ l0 af ac ae ak _ (Kd.C_i (Kd.C_below HR0.out HB.out)) HC0.out A7.out).mono ?_);rintro e w9 ⟨rfl,hb⟩;refine⟨_,rfl,?_⟩;replace ab:=Kd.wR ab hb;replace HB:=hS hb;clear hb)|(refine bE 6 #[.int .i64 0,.int .i64 0] 52 ?_;intro aa hg w10 hbox hb;replace ab:=aM (zu (Kd.R_elderB (zA ab.out) aa (Nat.le_of_eq hg.symm)) hb);have aj:=aM hbox;have aq:=aM (sZ hg);have aw:=aq;replace HB:=hS hb;clear hb hbox hg;have ay:=bz2 aj)|((with_reducible refine gate_builtin (b:=.append) (xs:=#[.tmp 22,.tmp 24]) rfl ?_);at_builtin;refine ZC k52 (w0:=w) w.heap.size rfl (.tmp 22) (.tmp 24) 48 52 (.agg #[(.int .i64 0),(.int .i64 0)]) 16 rfl Try.underlying48 info52 rfl (by decide) (by omega) u4 ag (⟨ac,ae⟩:S52) [.int .i64 ac,.int .i64 ae] (fun k_=>k_≠aa) (fun _=>False) rfl (by first|(go_simp;done)|(go_simp;rfl)) ?aP (fun _ hk=>hk.elim) ?aF ?aO ?aB ?aS ?aL ?_;(case aP=>exact k52_mkM _ _ _ (⟨ac,ae⟩:S52));(case aB=>exact hB);(case aF=>exact(fun k_ hk=>Kd.freshB (g:=aa) (o:=.cells #[.int .i64 ac,.int .i64 ae] 52 (0,0)) kB k_ hk));(case aO=>exact(zA (zH (zw (p:=⟨aa,1,none⟩) (zw (p:=⟨aa,0,none⟩) (zH ab.out (fun k_ hk=>(⟨hk,hk.2⟩:_∧k_≠aa))) (fun _ hk=>hk.2) (.int .i64 ac)) (fun _ hk=>hk.2) (.int .i64 ae)) (fun _ hk=>hk.1.2))));(case aS=>exact(zD hB));(case aL=>have:=av.out;omega);intro az w12 ho hb hg hat;rw[← ap.out]at ho;replace aj:=aM (zf (g:=aa) (o:=.cells #[.int .i64 ac,.int .i64 ae] 52 (0,0)) kB hg (Kd.R_away ab.out (fun _ hk=>hk.2)));replace HB:=aM hb;have ar:=aM ho;clear ab;clear ho hb hg hat));go_roundg k1
      case measure=>have:=HK1.out;omega
      case rel=>exact⟨(ao),(wrap64 (af+ak)),eQ,H',⟨by have:=HK1.out;omega⟩,⟨zA (zH ar.out (fun _ hk=>trivial))⟩,⟨hB⟩⟩
    · intro H;simp only[zL,zM]at H;obtain⟨rfl,rfl⟩:=H;go_wp2
      go_ret2;exact⟨_,eE,zA ab.out,hB⟩
 · intro H;subst c3;simp only[zL,zM]at H;obtain⟨rfl,rfl⟩:=H;go_enter Try.func34,Try.ntmps34
   go_wp2_with (first|(refine gL (some 9) Try.func74 #[.slice A0 l0.length c0,.int .i64 320] ?_;(with_reducible refine(impl_lengthsOk.calls k _ _ l0 320 false _ ?s1 HC0.out A2.out).mono ?_);(case s1=>exact Kd.C_i HR0.out);rintro e w' ⟨rfl,⟨nd,rfl⟩⟩;refine⟨_,rfl,?_⟩))
   go_ret2;exact⟨_,eE,by first|exact Kd.R_nil _ _ _ _ _|exact Kd.N_nil _ _ _ _ _|exact Kd.V_nil _ _ _ _ _|exact Kd.Q_nil _ _ _ _ _|exact Kd.S_nil _ _ _ _ _,hB⟩
end Go.Proofs.Ytldiiicbgdfapaa.PFnExactWovenBlock
