/- Walks of functions that the law reaches: each call comes to what the Lean function of its name tells. -/
import Derived.Test.YtldiiicbgdfapaaPFnExactWovenBlockx21
namespace Go.Proofs.Ytldiiicbgdfapaa.PFnExactWovenBlock
open Go.RowKit Go.Proofs.YtldiiicbgdfapaaW.PrintWords Go.Proofs.YtldiiicbgdfapaaW.PrintLast Go.Proofs.YtldiiicbgdfapaaW.PrintMore
attribute [local go_sem] max2_int min2_int max_two min_two max_three min_three max_four min_four
set_option linter.unusedVariables false
set_option maxHeartbeats 8000000
set_option maxRecDepth 100000
set_option linter.unusedSimpArgs false
theorem impl_hasCodes.calls (A0:Option Addr) (c0:Nat) (l0:List Int) (w:World) (hr0:Kd.C (Kd.int .i64) w A0 l0.length l0) (hc0:l0.length≤c0) (hl:l0.length≤1000000) :
 Calls Try.prog 80 #[.slice A0 l0.length c0] w fun e w'=>e = .returned (.bool (decide (kindB l0≠0∧kindB l0≠5)))∧Below w.heap.size w w':=by
 have HF:=aM (show impl_CodeKind.f l0=some (kindB l0)by unfold impl_CodeKind.f;rw[if_pos hl]);have HR0:=aM hr0;have HC0:=aM hc0;have HB:=aM (zQ w.heap.size w);clear hr0 hc0 hl
 generalize kindB l0=kd at HF ⊢
 by_cases h1:kd=0
 · have hd:decide (kd≠0∧kd≠5)=false:=zO (fun h=>h.1 h1)
   rw[hd];have h1b:(kd != 0)=false:=zP.mpr h1;clear h1 hd;go_enter Try.func80,Try.ntmps80
   go_wp2_with (first|((with_reducible refine gC 77 ?_);refine goesL_ (some 5) rfl rfl Try.func77 (by kernel_rfl) rfl #[.slice A0 l0.length c0] rfl (by(try simp only[zg,List.map_cons,List.map_nil]);first|done|rfl) ?_;(with_reducible refine(impl_CodeKind.calls A0 c0 l0 kd _ ?s1 HC0.out HF.out).mono ?_);(case s1=>exact Kd.C_i HR0.out);rintro e w' ⟨rfl,hb⟩;refine⟨_,rfl,?_⟩;have HB2:=hS hb;clear HB hb;have HB:=HB2;clear HB2));go_ret;exact⟨by first|rfl|simp,hB⟩
 · have h1b:(kd != 0)=true:=zU.mpr h1
   by_cases h2:kd=5
   · have hd:decide (kd≠0∧kd≠5)=false:=zO (fun h=>h.2 h2)
     rw[hd];have h2b:(kd != 5)=false:=zP.mpr h2;clear h1 h2 hd;go_enter Try.func80,Try.ntmps80
     go_wp2_with (first|((with_reducible refine gC 77 ?_);refine goesL_ (some 5) rfl rfl Try.func77 (by kernel_rfl) rfl #[.slice A0 l0.length c0] rfl (by(try simp only[zg,List.map_cons,List.map_nil]);first|done|rfl) ?_;(with_reducible refine(impl_CodeKind.calls A0 c0 l0 kd _ ?s1 HC0.out HF.out).mono ?_);(case s1=>exact Kd.C_i HR0.out);rintro e w' ⟨rfl,hb⟩;refine⟨_,rfl,?_⟩;have HB2:=hS hb;clear HB hb;have HB:=HB2;clear HB2));go_ret;exact⟨by first|rfl|simp,hB⟩
   · have hd:decide (kd≠0∧kd≠5)=true:=zN ⟨h1,h2⟩
     rw[hd];have h2b:(kd != 5)=true:=zU.mpr h2;clear h1 h2 hd;go_enter Try.func80,Try.ntmps80
     go_wp2_with (first|((with_reducible refine gC 77 ?_);refine goesL_ (some 5) rfl rfl Try.func77 (by kernel_rfl) rfl #[.slice A0 l0.length c0] rfl (by(try simp only[zg,List.map_cons,List.map_nil]);first|done|rfl) ?_;(with_reducible refine(impl_CodeKind.calls A0 c0 l0 kd _ ?s1 HC0.out HF.out).mono ?_);(case s1=>exact Kd.C_i HR0.out);rintro e w' ⟨rfl,hb⟩;refine⟨_,rfl,?_⟩;have HB2:=hS hb;clear HB hb;have HB:=HB2;clear HB2));go_ret;exact⟨by first|rfl|simp,hB⟩
def impl_CodesOf.f (l0:List Int):Option (List Int×Bool):=if l0.length≤1000000 then some (codesB l0)else none
theorem impl_CodesOf.oks (l0:List Int) (h:okB l0=true) (i:Nat) (hi:i<l0.length):0≤l0[i]∧l0[i]≤15:=by
  unfold okB at h
  rw[Bool.and_eq_true,List.all_eq_true]at h
  have:=h.1 l0[i] (List.getElem_mem hi)
  rw[Bool.and_eq_true]at this
  exact⟨of_decide_eq_true this.1,of_decide_eq_true this.2⟩
theorem impl_CodesOf.rd_set (fs:List Int) (n j:Nat) (x:Int) (h:n<fs.length):rd (fs.set n x) (j:Int)=if j=n then x else rd fs (j:Int):=by
  unfold rd
  simp only[Int.toNat_natCast,List.getD_eq_getElem?_getD]
  by_cases e:j=n
  · subst e
    rw[if_pos rfl,List.getElem?_set_self h]
    rfl
  · rw[if_neg e,List.getElem?_set_ne (Ne.symm e)]
theorem impl_CodesOf.row_skip (done:List Int) (L i:Nat) (h:i<L):done++List.replicate (L-i) 0=done++[0]++List.replicate (L-(i+1)) 0:=by
  rw[show L-i=(L-(i+1))+1 by omega,List.replicate_succ,List.append_assoc]
  rfl
theorem impl_CodesOf.row_set (done:List Int) (x:Int) (L i:Nat) (hd:done.length=i) (h:i<L):(done++List.replicate (L-i) 0).set i x=done++[x]++List.replicate (L-(i+1)) 0:=by
  rw[impl_CodesOf.row_skip done L i h,List.append_assoc,List.set_append_right _ _ (by omega),hd,Nat.sub_self,List.append_assoc]
  rfl
theorem impl_CodesOf.calls (A0:Option Addr) (c0:Nat) (l0:List Int) (r1:List Int) (r2:Bool) (w:World) (hr0:Kd.C (Kd.int .i64) w A0 l0.length l0) (hc0:l0.length≤c0) (h:impl_CodesOf.f l0=some (r1,r2)) :
 Calls Try.prog 42 #[.slice A0 l0.length c0] w fun e w' => ∃ v0_:Value,e = .returned (.tuple #[v0_,.bool r2])∧Kd.R (Kd.int .i64) 3 w' w.heap.size (fun _=>True) v0_ r1∧Below w.heap.size w w':=by
 unfold impl_CodesOf.f at h
 by_cases hl:l0.length≤1000000
 · rw[if_pos hl]at h;have hr:=zC h;clear h;have HR0:=aM hr0;have HC0:=aM hc0;have HL:=aM hl;have HB:=aM (zQ w.heap.size w);have HH:=aM (fun w1 hh=>impl_hasCodes.calls A0 c0 l0 w1 hh hc0 hl);clear hr0 hc0 hl;unfold codesB at hr
   by_cases hk:kindB l0=0∨kindB l0=5
   · rw[if_pos hk]at hr
     injection hr with hr1 hr2;subst hr1;subst hr2
     rw[show decide (kindB l0≠0∧kindB l0≠5)=false from zO (by omega)]at HH;go_enter Try.func42,Try.ntmps42
     go_wp2_with (first|((with_reducible refine gC 80 ?_);refine goesL_ (some 9) rfl rfl Try.func80 (by kernel_rfl) rfl #[.slice A0 l0.length c0] rfl (by(try simp only[zg,List.map_cons,List.map_nil]);first|done|rfl) ?_;(with_reducible refine(HH.out _ ?s1).mono ?_);(case s1=>exact Kd.C_i HR0.out);rintro e w' ⟨rfl,hb⟩;refine⟨_,rfl,?_⟩;have HB2:=hS hb;clear HB hb;have HB:=HB2;clear HB2))
     go_ret2;exact⟨_,rfl,Kd.R_nil _ _ _ _ _,hB⟩
   · rw[if_neg hk]at hr
     injection hr with hr1 hr2;subst hr1;subst hr2
     rw[show decide (kindB l0≠0∧kindB l0≠5)=true from zN (by omega)]at HH;have HOK:=aM (show okB l0=true by
      cases ho:okB l0
      · exact absurd (Or.inl (show kindB l0=0 by unfold kindB;rw[ho];rfl)) hk
      · rfl)
     clear hk;go_enter Try.func42,Try.ntmps42
     go_wp2_with (first|((with_reducible refine gC 80 ?_);refine goesL_ (some 9) rfl rfl Try.func80 (by kernel_rfl) rfl #[.slice A0 l0.length c0] rfl (by(try simp only[zg,List.map_cons,List.map_nil]);first|done|rfl) ?_;(with_reducible refine(HH.out _ ?s1).mono ?_);(case s1=>exact Kd.C_i HR0.out);rintro e w' ⟨rfl,hb⟩;refine⟨_,rfl,?_⟩;have HB2:=hS hb;clear HB hb;have HB:=HB2;clear HB2)|((with_reducible refine gC 81 ?_);refine goesL_ (some 12) rfl rfl Try.func81 (by kernel_rfl) rfl #[.slice A0 l0.length c0] rfl (by(try simp only[zg,List.map_cons,List.map_nil]);first|done|rfl) ?_;(with_reducible refine(impl_bookOf.calls A0 c0 l0 _ (Kd.C_i (Kd.C_below HR0.out HB.out)) HC0.out HL.out).mono ?_);rintro e w2 ⟨gb,vs,ss,rfl,hbk,ho,hs,hgb,hb⟩;refine⟨_,rfl,?_⟩;have GB:=aM (show w.heap.size≤gb from za (zD hB) hgb);have HB2:=hS hb;have BK:=aM hbk;clear HB;have HB:=HB2;clear HB2 hbk ho hs hgb hb)|((with_reducible refine gD 15 ?_);refine Kd.R_make (Kd.int .i64) _ 3 rfl (N:=15) rfl 45 _ _ rfl (l0.length:Int) rfl rfl Try.underlying45 (.int .i64 0) 8 info3 rfl (by decide) (by omega) 0 (ok:=fun _=>True) (okp:=fun _=>True) rfl (fun _ hk=>hk) trivial (by omega) (by have:=HL.out;omega) (zQ _ _) (zI _) ?_;intro cq w3 ho4 hb hg_ hnew_;clear hg_ hnew_;rw[Int.toNat_natCast]at ho4;have n0_:=aM (zb ho4 (zD hB));have n1_:=hS hb;have n2_:=aM (BookB.below BK.out hb);clear HB BK;have HO:=n0_;have HB:=n1_;have BK:=n2_;clear n0_ n1_ n2_;clear hb ho4;obtain⟨Av,cv,ev⟩:=zY HO.out;rw[List.length_replicate]at ev;subst ev))
     go_loopg [18] l0.length (fun kx v18 w' => ∃ (i:Nat) (fs done:List Int),v18 = .int .i64 (i:Int)∧Aside0 (i+kx=l0.length)∧Aside0 (fs.length=16)∧Aside0 (∀ j:Nat,j<16→0≤rd fs j∧rd fs j≤65536000000+(i:Int))∧Aside0 (giveB l0 ((List.range 16).map (fstB l0))=done++giveB (l0.drop i) fs)∧Aside0 (done.length=i)∧Aside0 (BookB w' gb (cntB l0) (fun j=>rd fs (j:Nat)) vs (sumB l0 15))∧Aside0 (Kd.R (Kd.int .i64) 3 w' w.heap.size (fun _=>True) (.slice Av l0.length cv) (done++List.replicate (l0.length-i) 0))∧Aside0 (Below w.heap.size w w'))
     case atStart =>
      refine⟨0,(List.range 16).map (fstB l0),[],rfl,⟨by simp⟩,⟨by simp⟩,⟨fun j hj=>?_⟩,⟨by simp⟩,⟨rfl⟩,⟨?_⟩,⟨?_⟩,⟨?_⟩⟩
      · have h1:=fstB_bd l0 HL.out j;have h2:=p2_bd j (by omega);have h3:rd ((List.range 16).map (fstB l0)) (j:Int)=fstB l0 j:=by unfold rd;simp[hj]
        rw[h3]
        omega
      · (with_reducible repeat (first|apply BookB.drewN|apply BookB.drew))
        refine BookB.congr BK.out (fun _ _=>rfl) (fun j hj=>?_);unfold rd;simp[hj]
      · (with_reducible repeat (first|apply zo|apply zk|apply zW))
        simpa using HO.out
      · (exact hB)
     case round =>
      clear BK HO HB;obtain⟨i,fs,done,rfl,HI,HF,HFB,HG,HD,BK,HO,HB⟩:=hrel
      by_cases hi:i<l0.length
      · have hi1:decide ((i:Int)<(l0.length:Int))=true:=zN (by omega);have hi2:decide (i<l0.length)=true:=zN hi;have pi:0≤(i:Int):=by omega
        have qi:(i:Int)<(l0.length:Int):=by omega
        obtain⟨ad,ea,hxi⟩:=zV HR0.out i pi qi;cases ea
        rw[Int.toNat_natCast]at hxi;replace hxi:=cB0 HB hxi;replace pi:=zB pi;replace qi:=zB qi;obtain⟨hk0,hk15⟩:=impl_CodesOf.oks l0 HOK.out i hi;obtain⟨n,hn⟩:=Int.eq_ofNat_of_zero_le hk0;have HN:=aM hn;have hn15:=aM (show n≤15 by omega);have hrd:rd l0 (i:Int)=(n:Int):=by rw[← hn];unfold rd;simp[hi]
        rw[hrd]at hxi;have hdrop:=aM (show l0.drop i=(n:Int) :: l0.drop (i+1)by rw[← hn];exact List.drop_eq_getElem_cons hi);have HII:=aM hi;have hwi:=aM (show wrap64 ((i:Int)+1)=((i+1:Nat):Int)by
         have h2:=HL.out;unfold wrap64;omega)
        clear hk0 hk15 hn hrd
        by_cases hz:0<n
        · have hz1:decide ((0:Int)<(n:Int))=true:=zN (by omega);have hz2:decide (0<n)=true:=zN hz;have hn16:=zB (show(n:Int)<16 by have:=hn15.out;omega);have HZ:=aM hz;clear hz;have hcn:wr.cell? ⟨gb,16+n,none⟩=some (.int .i64 (rd fs (n:Nat))):=BK.out.cellf n (by have:=hn15.out;omega);obtain⟨go,co,eo,gbx,glx,clx,HGx⟩:=Kd.R_form HO.out (by have:=HII.out;simp;omega)
          injection eo with ea_ en_ ec_;subst ea_;subst ec_;clear en_;have GX:=aM gbx;clear gbx glx HGx;obtain⟨hxo,hfo⟩:=ZG 0 HO.out (i:Int) (by omega) (by have:=HII.out;omega)
          rw[Int.toNat_natCast]at hxo hfo;have HO1:=aM (Kd.R_putn HO.out (i:Int) (rd fs (n:Nat)));have hne:=aM (show go≠gb by
           have h_:=BookB.ne_row BK.out HO.out (by decide)
           rintro rfl;exact h_ (by simp[Value.ownBlock]))
          have BK1:=aM (BookB.keep (w1:=wr.setCell ⟨go,i,none⟩ (.int .i64 (rd fs (n:Nat)))) BK.out (Below.heap_setCell _ _ _ _ (Ne.symm hne.out)));have HB1:=aM (below_set (j:=i) (v:=.int .i64 (rd fs (n:Nat))) HB.out GX.out)
          rw[Int.toNat_natCast]at HO1;go_wp2;clear hcn hxo hfo BK HO HB hxi
          generalize wr.setCell ⟨go,i,none⟩ (.int .i64 (rd fs (n:Nat)))=wq at BK1 HO1 HB1 ⊢;have hcn:wq.cell? ⟨gb,16+n,none⟩=some (.int .i64 (rd fs (n:Nat))):=BK1.out.cellf n (by have:=hn15.out;omega);have hfn:=BK1.out.free (16+n)
          refine start_ (n:=11) (S:=fun w'=>w'.cell? ⟨gb,16+n,none⟩=some (.int .i64 (rd fs (n:Nat)))) (ds:=[10]) (bAr 11 0) (by kernel_rfl) rfl rfl hcn (fun hHeld=>?_)
          refine pX 0 34 (bAr 11 1) ?_
          refine pX 1 35 (bAr 11 3) ?_
          refine pX 2 36 (bAr 11 7) ?_
          refine pX 3 37 (bAr 11 15) ?_
          refine pX 4 38 (bAr 11 31) ?_
          refine tK 5 39 (bAr 11 63) ?_
          refine pX 6 40 (bAr 11 127) ?_
          refine pX 7 41 (bAr 11 255) ?_
          refine pX 8 42 (bAr 11 511) ?_
          refine pX 9 43 (bAr 11 1023) ?_
          refine last_ (i:=10) (N:=none) (bAr 11 2047) rfl rfl (by kernel_rfl) (by decide) (fun K hK=>?_)
          refine skip_ (w1:=?_) (by rfl) rfl ?_ ?_;rotate_left
          · go_simp
            rfl
          refine hK.out _ _ ?_;clear hK K
          refine done_ (by kernel_rfl) ?_;have hwf:=aM (show wrap64 (rd fs (n:Nat)+1)=rd fs (n:Nat)+1 by
           have h1:=HFB.out n (by have:=hn15.out;omega);have h2:=HII.out;have h3:=HL.out;unfold wrap64;omega)
          have BK2:=aM (BookB.setf BK1.out n (by have:=hn15.out;omega) (wrap64 (rd fs (n:Nat)+1)));have HO2:=aM (BookB.row_set (j:=16+n) (x:=.int .i64 (wrap64 (rd fs (n:Nat)+1))) BK1.out HO1.out (by decide));have HB2:=aM (below_set (j:=16+n) (v:=.int .i64 (wrap64 (rd fs (n:Nat)+1))) HB1.out GB.out);clear hcn hfn BK1 HO1 HB1
          generalize wq.setCell ⟨gb,16+n,none⟩ (.int .i64 (wrap64 (rd fs (n:Nat)+1)))=wp at BK2 HO2 HB2 ⊢;go_wp2;go_roundg (gk-1)
          case measure=>have:=HI.out;have:=HII.out;omega
          case rel =>
           refine⟨i+1,fs.set n (rd fs (n:Nat)+1),done++[rd fs (n:Nat)],by rw[hwi.out],⟨by have:=HI.out;have:=HII.out;omega⟩,⟨by rw[List.length_set];exact HF.out⟩,⟨fun j hj=>?_⟩,⟨?_⟩,⟨by rw[List.length_append,HD.out];rfl⟩,⟨?_⟩,⟨?_⟩,⟨?_⟩⟩
           · rw[impl_CodesOf.rd_set fs n j _ (by rw[HF.out];have:=hn15.out;omega)];have h1:=HFB.out n (by have:=hn15.out;omega);have h2:=HFB.out j hj
             push_cast
             split <;> omega
           · rw[HG.out,hdrop.out,giveB,if_pos (by have:=HZ.out;omega),Int.toNat_natCast,List.append_assoc]
             rfl
           · (with_reducible repeat (first|apply BookB.drewN|apply BookB.drew))
             refine BookB.congr BK2.out (fun _ _=>rfl) (fun j hj=>?_)
             show rd (fs.set n (rd fs (n:Nat)+1)) (j:Nat)=if j=n then wrap64 (rd fs (n:Nat)+1)else rd fs (j:Nat)
             rw[impl_CodesOf.rd_set fs n j _ (by rw[HF.out];have:=hn15.out;omega),hwf.out]
           · (with_reducible repeat (first|apply zo|apply zk|apply zW))
             rw[impl_CodesOf.row_set done _ l0.length i HD.out HII.out]at HO2;exact HO2.out
           · (repeat (first|(with_reducible first|exact HB2.out|apply zz|apply zx|apply zy)|exact HB2.out))
        · have hz1:decide ((0:Int)<(n:Int))=false:=zO (by omega);have hz2:decide (0<n)=false:=zO hz;have HZ:=aM (show n=0 by omega);clear hz;go_wp2;go_roundg (gk-1)
          case measure=>have:=HI.out;have:=HII.out;omega
          case rel =>
           refine⟨i+1,fs,done++[0],by rw[hwi.out],⟨by have:=HI.out;have:=HII.out;omega⟩,HF,⟨fun j hj=>by have:=HFB.out j hj;push_cast;omega⟩,⟨?_⟩,⟨by rw[List.length_append,HD.out];rfl⟩,⟨?_⟩,⟨?_⟩,⟨?_⟩⟩
           · rw[HG.out,hdrop.out,giveB,if_neg (by have:=HZ.out;omega),List.append_assoc]
             rfl
           · (with_reducible repeat (first|apply BookB.drewN|apply BookB.drew));exact BK.out
           · (with_reducible repeat (first|apply zo|apply zk|apply zW));have h1:=impl_CodesOf.row_skip done l0.length i HII.out
             rw[← h1];exact HO.out
           · (exact hB)
      · have hi1:decide ((i:Int)<(l0.length:Int))=false:=zO (by omega);have hi2:decide (i<l0.length)=false:=zO hi;have HII:=aM (show i=l0.length by have:=HI.out;omega);clear hi;go_wp2
        go_ret2
        refine⟨_,rfl,?_,?_⟩
        · (with_reducible repeat (first|apply zo|apply zk|apply zW));have h1:=HO.out
          rw[HII.out,Nat.sub_self,List.replicate_zero]at h1
          rw[HG.out,HII.out,List.drop_length,giveB];exact h1
        · (exact hB)
 · rw[if_neg hl]at h;cases h
def impl_writer_code.l0:Nat→Int→Int→ByteArray→Int→Option (ByteArray×Int)
  | 0,_,_,_,_=>none
  | k+1,x1,x6,x1000,x1001=>if x6≥0 then(if 0≤x6 then((impl_writer_bit.f x1000 x1001 (shr .i64 x1 x6)).bind fun bt718=>(impl_writer_code.l0 k x1 (wrap64 (x6-1)) bt718.1 bt718.2))else(none))else(some (x1000,x1001))
def impl_writer_code.f (k:Nat) (s0_0:ByteArray) (s0_1:Int) (a1:Int) (a2:Int):Option (ByteArray×Int):=impl_writer_code.l0 k a1 (wrap64 (a2-1)) s0_0 s0_1
theorem impl_writer_code.calls (k:Nat) (g:Nat) (s0_0:ByteArray) (s0_1:Int) (a1:Int) (a2:Int) (r1:ByteArray) (r2:Int) (w0 w:World) (hI:IsS116 w0 w g s0_0 s0_1) (hB:Below w0.heap.size w0 w) (h:impl_writer_code.f k s0_0 s0_1 a1 a2=some (r1,r2)) :
 Calls Try.prog 82 #[.pointer (some ⟨g,0,none⟩),.int .i64 a1,.int .i64 a2] w fun e w'=>e = .returned (.tuple #[])∧IsS116 w0 w' g r1 r2∧Below w0.heap.size w0 w'∧KeepW w0.heap.size w w' g none:=by
 have HI0:=aM hI;have HK:=aM (show KeepW w0.heap.size w w g none from KeepW.refl w g none);have HL:=aM hB.size;clear hI;have HW0:=aM hB.size;have HB:=aM hB;clear hB;have H:(impl_writer_code.l0 k a1 (wrap64 (a2-1)) s0_0 s0_1)=some (r1,r2):=h;clear h;revert H;refine adR fun H'=>?_;go_enter Try.func82,Try.ntmps82;go_wp2
 go_loopg [6] k (fun kq v6 w' => ∃ (ap:Int) (aa:ByteArray) (ab:Int),v6 = .int .i64 ap∧Aside0 (impl_writer_code.l0 kq a1 ap aa ab=some (r1,r2))∧Aside0 (kq≤k)∧Aside0 (IsS116 w0 w' g aa ab)∧Aside0 (KeepW w0.heap.size w w' g none)∧Aside0 (Below w0.heap.size w0 w'))
 case atStart=>exact⟨(wrap64 (a2-1)),(s0_0),(s0_1),eQ,H',⟨zI _⟩,⟨iA⟩,⟨(iK HK)⟩,⟨iC⟩⟩
 case round =>
  clear H';(try clear p2);obtain⟨ap,aa,ab,rfl,HA,HK1,HI0,HK,HB⟩:=hrel;rcases gk with _|k1
  · exact absurd HA.out (by simp[impl_writer_code.l0])
  revert HA;refine aoR ?_;intro H;simp only[impl_writer_code.l0]at H;revert H
  refine iB (fun aK=>?_) (fun aK=>?_)
  · refine ifR fun c5=>?_;intro H;have bK:=zB c5;have cr:=zN c5;clear c5;obtain⟨ji6,ay⟩:∃ j_:Int,(shr .i64 a1 ap)=j_:=⟨_,rfl⟩;replace H:((impl_writer_bit.f aa ab (ji6)).bind fun bt718=>(impl_writer_code.l0 k1 a1 (wrap64 (ap-1)) bt718.1 bt718.2))=some (r1,r2):=by first|(rw[ay]at H;exact H)|(simp only[ay]at H ⊢;exact H)
    have hji6_:(a1 / 2 ^ min ap.toNat 64)=ji6:=ay;have hji6z:ap≤64→(a1 / 2 ^ ap.toNat)=ji6:=shr_small ay;revert H;refine bdR fun⟨bf,bg⟩ A7=>?_;intro H
    try dsimp only at H
    revert H;refine adR fun H'=>?_
    go_wp2_with (first|((with_reducible refine gC 79 ?_);refine goesL_ (some 17) rfl rfl Try.func79 (by kernel_rfl) rfl #[.pointer (some ⟨g,0,none⟩),.int .i64 ji6] rfl (by(try simp only[zg,List.map_cons,List.map_nil]);first|done|(simp only[ay];rfl)|rfl|(simp only[zn,zd];rfl)) ?_;(with_reducible refine(impl_writer_bit.calls g aa ab ji6 bf bg w0 _ ?s1 ?s2 A7.out).mono ?_);(case s1=>exact iA);(case s2=>exact iC);rintro e w8 ⟨rfl,hi,hb,hk⟩;refine⟨_,rfl,?_⟩;replace HK:=aM (ZE (iK HK) hk (.inl rfl));replace HB:=aM hb;replace HI0:=aM hi;clear hb hk hi));go_roundg k1
    case measure=>have:=HK1.out;omega
    case rel=>exact⟨(wrap64 (ap-1)),(bf),(bg),eQ,H',⟨by have:=HK1.out;omega⟩,⟨iA⟩,⟨(iK HK)⟩,⟨iC⟩⟩
  · intro H;simp only[zL,zM]at H;obtain⟨rfl,rfl⟩:=H;go_wp2
    first|go_end0|((try simp only[Exit.inBlock,Exit.then]);refine bodyPost_ret (results_none rfl _ _ _) rfl ?_)
    exact⟨eE,iA,iC,(iK HK)⟩
def impl_writer_symbol.f (k:Nat) (s0_0:ByteArray) (s0_1:Int) (l1:List Int) (l2:List Int) (a3:Int):Option (ByteArray×Int):=if 0≤a3 then(if a3<(l1.length:Int)then(if a3<(l2.length:Int)then((impl_writer_code.f k s0_0 s0_1 (rd l1 a3) (rd l2 a3)).bind fun aJ=>(some (aJ.1,aJ.2)))else(none))else(none))else(none)
def impl_writer_symbol.T0:Bool×List (List Nat×List Nat):=(true,[([],[]),([],[]),([],[]),([1,2],[1,2]),([3],[3]),([],[]),([],[]),([5,6],[5,6]),([7],[7]),([0,4,8],[0,4,8])])
def impl_writer_symbol.B0:List Nat:=[0,0,0,6,14,0,0,96,224,511]
theorem impl_writer_symbol.tab0:rtab .any (opsOf Try.f43 0)=impl_writer_symbol.T0:=by kernel_rfl
theorem impl_writer_symbol.bits0:waitsOk impl_writer_symbol.T0.2 impl_writer_symbol.B0=true:=by kernel_rfl
theorem impl_writer_symbol.calls (k:Nat) (g:Nat) (s0_0:ByteArray) (s0_1:Int) (A1:Option Addr) (c1:Nat) (l1:List Int) (A2:Option Addr) (c2:Nat) (l2:List Int) (a3:Int) (r1:ByteArray) (r2:Int) (w0 w:World) (hI:IsS116 w0 w g s0_0 s0_1) (hB:Below w0.heap.size w0 w) (hr1:Kd.C (Kd.int .i64) w A1 l1.length l1) (hc1:l1.length≤c1) (hf1:∀ ad,A1=some ad→0<l1.length→FarW w ad.block g) (hr2:Kd.C (Kd.int .i64) w A2 l2.length l2) (hc2:l2.length≤c2) (hf2:∀ ad,A2=some ad→0<l2.length→FarW w ad.block g) (h:impl_writer_symbol.f k s0_0 s0_1 l1 l2 a3=some (r1,r2)) :
 Calls Try.prog 43 #[.pointer (some ⟨g,0,none⟩),.slice A1 l1.length c1,.slice A2 l2.length c2,.int .i64 a3] w fun e w'=>e = .returned (.tuple #[])∧IsS116 w0 w' g r1 r2∧Below w0.heap.size w0 w'∧KeepW w0.heap.size w w' g none:=by
 have HR1:=aM hr1;have HC1:=aM hc1;clear hr1 hc1;have HR2:=aM hr2;have HC2:=aM hc2;clear hr2 hc2;have HI0:=aM hI;have HK:=aM (show KeepW w0.heap.size w w g none from KeepW.refl w g none);have HL:=aM hB.size;clear hI;have HW0:=aM hB.size;have HB:=aM hB;clear hB;unfold impl_writer_symbol.f at h;have H:=h;clear h;revert H;refine iR fun bK=>?_;refine iR fun ct=>?_;refine iR fun cu=>?_;refine bdR fun⟨bM,bN⟩ A8=>?_;intro H
 try dsimp only at H
 simp only[zL,zM]at H;obtain⟨rfl,rfl⟩:=H;go_enter Try.func43,Try.ntmps43
 try go_wp2
 replace HI0:=aM (IsS116.drew HI0.out);replace HK:=aM (keepW_drew HK.out);replace HB:=aM (zy HB.out);have aN:0≤(a3:Int):=bD;have aQ:a3<(l1.length:Int):=bD;obtain⟨an,bO,aj⟩:=zV HR1.out a3 aN aQ;have av:=aj;cases bO;have hne720_0:=(show FarW w ((an.add (a3).toNat):Addr).block g from by first|(rw[add_block];exact hf1 an rfl (by omega))|(show FarW _ (Addr.add _ _).block _;rw[add_block];exact hf1 an rfl (by omega))|exact hf1 an rfl (by omega));replace aj:=keepW_cell HK.out aj (by first|(rw[add_block];exact hf1 _ rfl (by omega))|exact hf1 _ rfl (by omega)|exact hf1 an rfl (by omega));replace aN:=zB aN;replace aQ:=zB aQ;have aT:0≤(a3:Int):=bD;have aU:a3<(l2.length:Int):=bD;obtain⟨ao,bP,ak⟩:=zV HR2.out a3 aT aU;have aw:=ak;cases bP;have hne721_0:=(show FarW w ((ao.add (a3).toNat):Addr).block g from by first|(rw[add_block];exact hf2 ao rfl (by omega))|(show FarW _ (Addr.add _ _).block _;rw[add_block];exact hf2 ao rfl (by omega))|exact hf2 ao rfl (by omega));replace ak:=keepW_cell HK.out ak (by first|(rw[add_block];exact hf2 _ rfl (by omega))|exact hf2 _ rfl (by omega)|exact hf2 ao rfl (by omega));replace aT:=zB aT;replace aU:=zB aU
 refine start_ (n:=10) (S:=fun w'=>w'.cell? (an.add (a3).toNat)=some (.int .i64 (rd l1 a3))∧w'.cell? (ao.add (a3).toNat)=some (.int .i64 (rd l2 a3))) (ds:=[]) (bAr 10 0) (by kernel_rfl) rfl rfl ⟨(keepW_cell HK.out av hne720_0),(keepW_cell HK.out aw hne721_0)⟩ (fun hHeld=>?_);refine with_tabW impl_writer_symbol.tab0 impl_writer_symbol.bits0 (fun HT_ HW_=>?_)
 generalize w.drew=w9 at HI0 HK HB aj ak hHeld ⊢;refine pU 0 8 (bAr 10 1) ?_;refine pU 1 9 (bAr 10 3) ?_;refine pU 2 10 (bAr 10 7) ?_;refine pU 3 11 (bAr 10 15) ?_;refine pU 5 13 (bAr 10 47) ?_;refine pU 6 14 (bAr 10 111) ?_;refine pU 7 15 (bAr 10 239) ?_
 refine tK 4 12 (bAr 10 255) ?_
 refine tK 8 16 (bAr 10 511) ?_
 refine one_ (i:=9) (N:=some 17) (bAr 10 1023) rfl rfl (one_of HT_.out (by kernel_rfl)) (by decide) (fun K hK=>?_)
 refine goes_ Try.func82 (by kernel_rfl) rfl #[.pointer (some ⟨g,0,none⟩),.int .i64 (rd l1 a3),.int .i64 (rd l2 a3)] (by rfl) rfl rfl (by(try simp only[zg,List.map_cons,List.map_nil]);first|done|rfl|(simp only[zn,zd];rfl)) ?_
 with_reducible refine(impl_writer_code.calls k g s0_0 s0_1 (rd l1 a3) (rd l2 a3) bM bN w0 _ ?s1 ?s2 A8.out).mono ?_
 (case s1=>exact iA)
 (case s2=>exact iC)
 rintro e w10 ⟨rfl,hi,hb,hk⟩
 refine⟨_,rfl,?_⟩;replace HK:=aM (ZE (iK HK) hk (.inl rfl));replace HB:=aM hb;replace HI0:=aM hi
 refine hK.out _ _ ⟨(keepW_cell HK.out av hne720_0),(keepW_cell HK.out aw hne721_0)⟩ (fun hHeld=>?_);clear hK K
 refine norm_ (a':=?_) ?_ ?_;rotate_left
 · show Act.put _ (some 17) _=_
   simp only[Act.put,zE,zF,zG,i64_w,i32_w]
   rfl
 refine done_ (done_of HT_.out (by kernel_rfl)) ?_
 try go_wp2
 first|go_end0|((try simp only[Exit.inBlock,Exit.then]);refine bodyPost_ret (results_none rfl _ _ _) rfl ?_)
 exact⟨eE,iA,iC,(iK HK)⟩
def impl_ExtraBits.f (a0:Int):Option (Int):=if a0=16 then(some 2)else(if a0=17 then(some 3)else(if a0=18 then(some 7)else(some 0)))
theorem impl_ExtraBits.calls (a0:Int) (r:Int) (w:World) (h:impl_ExtraBits.f a0=some r) :
 Calls Try.prog 44 #[.int .i64 a0] w fun e w'=>e = .returned (.int .i64 r)∧Drawn0 w w':=by
 have H:(if a0=16 then(some 2)else(if a0=17 then(some 3)else(if a0=18 then(some 7)else(some 0))))=some r:=h;clear h;revert H
 refine iQ (fun bQ bR=>?_) (fun c2 bQ bR=>?_)
 · intro H;obtain rfl:=zC H;go_enter Try.func44,Try.ntmps44;go_wp2;go_ret;exact⟨eQ,dQ⟩
 · intro H;revert H
   refine iQ (fun bS bT=>?_) (fun c3 bS bT=>?_)
   · intro H;obtain rfl:=zC H;go_enter Try.func44,Try.ntmps44;go_wp2;go_ret;exact⟨eQ,dQ⟩
   · intro H;revert H
     refine iQ (fun aK bU=>?_) (fun c4 aK bU=>?_)
     · intro H;obtain rfl:=zC H;go_enter Try.func44,Try.ntmps44;go_wp2;go_ret;exact⟨eQ,dQ⟩
     · intro H;obtain rfl:=zC H;go_enter Try.func44,Try.ntmps44;go_wp2;go_ret;exact⟨eQ,dQ⟩
def impl_writer_tokens.l0:Nat→List Int→List Int→List Int→List Int→List (S70)→Int→Int→ByteArray→Int→Option (ByteArray×Int)
  | 0,_,_,_,_,_,_,_,_,_=>none
  | k+1,x2,x3,x8,x10,x27,x28,x29,x1000,x1001=>if x29<x28 then(if 0≤x29 then(if x29<(x27.length:Int)then(if((rd_T70 x27 x29).f1)=0 then((impl_writer_symbol.f k x1000 x1001 x8 x2 ((rd_T70 x27 x29).f0)).bind fun bt736=>(impl_writer_tokens.l0 k x2 x3 x8 x10 x27 x28 (wrap64 (x29+1)) bt736.1 bt736.2))else((impl_LengthCode.f k ((rd_T70 x27 x29).f1)).bind fun bt738=>((impl_writer_symbol.f k x1000 x1001 x8 x2 bt738.1).bind fun bt741=>((impl_writer_bits.f k bt741.1 bt741.2 bt738.2.2 bt738.2.1).bind fun bt743=>((impl_DistCode.f k ((rd_T70 x27 x29).f2)).bind fun bt745=>((impl_writer_symbol.f k bt743.1 bt743.2 x10 x3 bt745.1).bind fun bt748=>((impl_writer_bits.f k bt748.1 bt748.2 bt745.2.2 bt745.2.1).bind fun bt750=>(impl_writer_tokens.l0 k x2 x3 x8 x10 x27 x28 (wrap64 (x29+1)) bt750.1 bt750.2))))))))else(none))else(none))else((impl_writer_symbol.f k x1000 x1001 x8 x2 256).bind fun bt732=>(some (bt732.1,bt732.2)))
def impl_writer_tokens.f (k:Nat) (s0_0:ByteArray) (s0_1:Int) (l1:List (S70)) (l2:List Int) (l3:List Int):Option (ByteArray×Int):=(impl_CodesOf.f l2).bind fun az=>((impl_CodesOf.f l3).bind fun aA=>(impl_writer_tokens.l0 k l2 l3 az.1 aA.1 l1 (l1.length:Int) 0 s0_0 s0_1))
theorem impl_writer_tokens.calls (k:Nat) (g:Nat) (s0_0:ByteArray) (s0_1:Int) (A1:Option Addr) (c1:Nat) (l1:List (S70)) (A2:Option Addr) (c2:Nat) (l2:List Int) (A3:Option Addr) (c3:Nat) (l3:List Int) (r1:ByteArray) (r2:Int) (w0 w:World) (hI:IsS116 w0 w g s0_0 s0_1) (hB:Below w0.heap.size w0 w) (hr1:∀ W_,KeepW w0.heap.size w W_ g none→Kd.C k70 W_ A1 l1.length l1) (hc1:l1.length≤c1) (hr2:Kd.C (Kd.int .i64) w A2 l2.length l2) (hc2:l2.length≤c2) (hf2:∀ ad,A2=some ad→0<l2.length→FarW w ad.block g) (hr3:Kd.C (Kd.int .i64) w A3 l3.length l3) (hc3:l3.length≤c3) (hf3:∀ ad,A3=some ad→0<l3.length→FarW w ad.block g) (h:impl_writer_tokens.f k s0_0 s0_1 l1 l2 l3=some (r1,r2)) :
 Calls Try.prog 45 #[.pointer (some ⟨g,0,none⟩),.slice A1 l1.length c1,.slice A2 l2.length c2,.slice A3 l3.length c3] w fun e w'=>e = .returned (.tuple #[])∧IsS116 w0 w' g r1 r2∧Below w0.heap.size w0 w'∧KeepW w0.heap.size w w' g none:=by
 have hu70:=Try.underlying70;have HR1:=aM hr1;have HC1:=aM hc1;clear hr1 hc1;have HR2:=aM hr2;have HC2:=aM hc2;clear hr2 hc2;have HR3:=aM hr3;have HC3:=aM hc3;clear hr3 hc3;have HI0:=aM hI;have HK:=aM (show KeepW w0.heap.size w w g none from KeepW.refl w g none);have HL:=aM hB.size;clear hI;have HW0:=aM hB.size;have HB:=aM hB;clear hB;have H:((impl_CodesOf.f l2).bind fun az=>((impl_CodesOf.f l3).bind fun aA=>(impl_writer_tokens.l0 k l2 l3 az.1 aA.1 l1 (l1.length:Int) 0 s0_0 s0_1)))=some (r1,r2):=h;clear h;revert H;refine bdR fun⟨am,bV⟩ A5=>?_;intro H
 try dsimp only at H
 revert H;refine bdR fun⟨aC,bX⟩ A6=>?_;intro H
 try dsimp only at H
 revert H;refine adR fun H'=>?_;go_enter Try.func45,Try.ntmps45
 go_wp2_with (first|(refine gL (some 19) Try.func42 #[.slice A2 l2.length c2] ?_;(with_reducible refine(impl_CodesOf.calls _ _ l2 am bV _ ?s1 HC2.out A5.out).mono ?_);(case s1=>exact Kd.C_keepW (b:=w0.heap.size) 0 HR2.out (iK HK) hf2);rintro e w7 ⟨bh,rfl,ho0,hb⟩;refine⟨_,rfl,?_⟩;have ax:=aM (zb ho0 (keepW_size (b:=w0.heap.size) (w:=w) (g:=g) (row:=none) (iK HK)));replace HK:=aM (ZE (iK HK) (KeepW.of_below hb g none) (.inl rfl));replace HB:=hS hb iC;replace HI0:=aM (IsS116.below iA hb);clear hb ho0)|(refine gL (some 24) Try.func42 #[.slice A3 l3.length c3] ?_;(with_reducible refine(impl_CodesOf.calls _ _ l3 aC bX _ ?s1 HC3.out A6.out).mono ?_);(case s1=>exact Kd.C_keepW (b:=w0.heap.size) 0 HR3.out (iK HK) hf3);rintro e w8 ⟨aD,rfl,ho0,hb⟩;refine⟨_,rfl,?_⟩;have bi:=aM (zb (zi ho0 (zX (zA ax.out))) (keepW_size (b:=w0.heap.size) (w:=w) (g:=g) (row:=none) (iK HK)));replace ax:=aM (zZ (zA ax.out) (ze ho0) hb);replace HK:=aM (ZE (iK HK) (KeepW.of_below hb g none) (.inl rfl));replace HB:=hS hb iC;replace HI0:=aM (IsS116.below iA hb);clear hb ho0))
 go_loopg [29] k (fun kq v29 w' => ∃ (ac:Int) (aa:ByteArray) (ab:Int),v29 = .int .i64 ac∧Aside0 (impl_writer_tokens.l0 kq l2 l3 am aC l1 (l1.length:Int) ac aa ab=some (r1,r2))∧Aside0 (kq≤k)∧Aside0 (Kd.R (Kd.int .i64) 3 w' w.heap.size (fun k_=>some k_≠(aD:Value).ownBlock) bh am)∧Aside0 (Kd.R (Kd.int .i64) 3 w' w.heap.size (fun k_=>some k_≠(bh:Value).ownBlock) aD aC)∧Aside0 (IsS116 w0 w' g aa ab)∧Aside0 (KeepW w0.heap.size w w' g none)∧Aside0 (Below w0.heap.size w0 w'))
 case atStart=>exact⟨(0),(s0_0),(s0_1),eQ,H',⟨zI _⟩,⟨zA (zH ax.out (fun _ hk=>hk.2))⟩,⟨zA (zH bi.out (fun _ hk=>hk.2))⟩,⟨iA⟩,⟨(iK HK)⟩,⟨iC⟩⟩
 case round =>
  clear H';(try clear c1);(try clear c2);(try clear p2);(try clear c3);(try clear c4);obtain⟨ac,aa,ab,rfl,HA,HK1,af,ae,HI0,HK,HB⟩:=hrel;rcases gk with _|k1
  · exact absurd HA.out (by simp[impl_writer_tokens.l0])
  revert HA;refine aoR ?_;intro H;simp only[impl_writer_tokens.l0]at H;revert H
  refine iB (fun bY=>?_) (fun bY=>?_)
  · refine iR fun cj=>?_;refine iR fun ck=>?_;intro H;revert H
    refine iQ (fun bj bk=>?_) (fun c12 bj bk=>?_)
    · refine bdR fun⟨bl,bn⟩ A13=>?_;intro H
      try dsimp only at H
      revert H;refine adR fun H'=>?_;have ar:0≤(ac:Int):=bD;have au:ac<(l1.length:Int):=bD;obtain⟨bo,aV,aG,aH,aI⟩:=at_T70 (Kd.C_foot_nowW HR1.out HK.out) ac ar au;cases aV;replace ar:=zB ar;replace au:=zB au
      go_wp2_with (first|(refine bE 13 #[.int .i64 0,.int .i64 0,.int .i64 0] 70 ?_;intro ah hg w14 hbox hb;replace af:=Kd.wR af hb;replace ae:=Kd.wR ae hb;replace HB:=hS hb iC;have ag:=aM hbox;have bq:=aM ((by rw[hg];exact(keepW_size (b:=w0.heap.size) (w:=w) (g:=g) (row:=none) (iK HK)):w.heap.size≤ah));have br:=aM ((za HW0.out (by rw[hg];exact(keepW_size (b:=w0.heap.size) (w:=w) (g:=g) (row:=none) (iK HK)):w.heap.size≤ah):w0.heap.size≤ah));replace HK:=aM (ZE (iK HK) (KeepW.of_below hb g none) (.inl rfl));have aq:=aM ((by rw[hg];exact Nat.ne_of_lt (IsS116.lt (show IsS116 w0 _ g aa ab from iA)):g≠ah));have ai:=aM ((by rw[hg];exact Nat.ne_of_gt (IsS116.lt (show IsS116 w0 _ g aa ab from iA)):ah≠g));replace HI0:=aM (IsS116.below iA hb);clear hb hbox hg;have cl:=ai.out;have cm:=aq.out;have cw:=bz3 ag;obtain⟨bZ,bu,b0⟩:=zY af.out;subst b0)|(refine gL (some 41) Try.func43 #[.pointer (some ⟨g,0,none⟩),.slice bZ am.length bu,.slice A2 l2.length c2,.int .i64 ((rd_T70 l1 ac).f0)] ?_;(with_reducible refine(impl_writer_symbol.calls k1 g aa ab _ _ am _ _ l2 ((rd_T70 l1 ac).f0) bl bn w0 _ ?s1 ?s2 ?s3 ?s4 ?s5 ?s6 HC2.out ?s8 A13.out).mono ?_);(case s1=>exact iA);(case s2=>exact iC);(case s3=>refine(zJ (e:=3) (base:=w.heap.size) (ok:=fun k_=>some k_≠(aD:Value).ownBlock) (n:=am.length) (c:=bu) ?_).2.2;exact(Kd.R_p (zj af.out ag.out (by decide))));(case s4=>exact(zJ af.out).2.1);(case s5=>intro ad_ he_ hn_;repeat (first|exact farW_slice (af.out) (IsS116.own_ne HI0.out af.out (by decide)) (by decide) ad_ he_ hn_|apply FarW.set|apply FarW.drewN|apply FarW.drew));(case s6=>exact Kd.C_keepW (b:=w0.heap.size) 0 HR2.out (iK HK) hf2);(case s8=>exact farW_keep (b:=w0.heap.size) (iK HK) (Kd.C_inW 0 HR2.out) hf2);rintro e w18 ⟨rfl,hi,hb,hk⟩;refine⟨_,rfl,?_⟩;replace af:=aM (zH (Kd.R_keepW (IsS116.apart (show IsS116 w0 _ g aa ab from iA) (Kd.R_p (zj af.out ag.out (by decide))) (by decide)) hk (fun _ h=>h.2)) (fun _ h=>h.1));replace ae:=aM (zH (Kd.R_keepW (IsS116.apart (show IsS116 w0 _ g aa ab from iA) (Kd.R_p (zj ae.out ag.out (by decide))) (by decide)) hk (fun _ h=>h.2)) (fun _ h=>h.1));replace ag:=aM (KeepW.blk hk (g':=ah) (o:=.cells #[.int .i64 ((rd_T70 l1 ac).f0),.int .i64 ((rd_T70 l1 ac).f1),.int .i64 ((rd_T70 l1 ac).f2)] 70 (0,0)) kB ai.out (by simp));replace HK:=aM (ZE (iK HK) hk (.inl rfl));replace HB:=aM hb;replace HI0:=aM hi;clear hb hk hi));go_roundg k1
      case measure=>have:=HK1.out;omega
      case rel=>exact⟨(wrap64 (ac+1)),(bl),(bn),eQ,H',⟨by have:=HK1.out;omega⟩,⟨zA af.out⟩,⟨zA ae.out⟩,⟨iA⟩,⟨(iK HK)⟩,⟨iC⟩⟩
    · refine bdR fun⟨aW,aX,aY⟩ A19=>?_;intro H
      try dsimp only at H
      revert H;refine bdR fun⟨bv,bw⟩ A20=>?_;intro H
      try dsimp only at H
      revert H;refine bdR fun⟨bx,bz⟩ A21=>?_;intro H
      try dsimp only at H
      revert H;refine bdR fun⟨aZ,bb,be⟩ A22=>?_;intro H
      try dsimp only at H
      revert H;refine bdR fun⟨bA,bF⟩ A23=>?_;intro H
      try dsimp only at H
      revert H;refine bdR fun⟨bG,bH⟩ A24=>?_;intro H
      try dsimp only at H
      revert H;refine adR fun H'=>?_;have ar:0≤(ac:Int):=bD;have au:ac<(l1.length:Int):=bD;obtain⟨bo,aV,aG,aH,aI⟩:=at_T70 (Kd.C_foot_nowW HR1.out HK.out) ac ar au;cases aV;replace ar:=zB ar;replace au:=zB au
      go_wp2_with (first|(refine bE 13 #[.int .i64 0,.int .i64 0,.int .i64 0] 70 ?_;intro ah hg w25 hbox hb;replace af:=Kd.wR af hb;replace ae:=Kd.wR ae hb;replace HB:=hS hb iC;have ag:=aM hbox;have bq:=aM ((by rw[hg];exact(keepW_size (b:=w0.heap.size) (w:=w) (g:=g) (row:=none) (iK HK)):w.heap.size≤ah));have br:=aM ((za HW0.out (by rw[hg];exact(keepW_size (b:=w0.heap.size) (w:=w) (g:=g) (row:=none) (iK HK)):w.heap.size≤ah):w0.heap.size≤ah));replace HK:=aM (ZE (iK HK) (KeepW.of_below hb g none) (.inl rfl));have aq:=aM ((by rw[hg];exact Nat.ne_of_lt (IsS116.lt (show IsS116 w0 _ g aa ab from iA)):g≠ah));have ai:=aM ((by rw[hg];exact Nat.ne_of_gt (IsS116.lt (show IsS116 w0 _ g aa ab from iA)):ah≠g));replace HI0:=aM (IsS116.below iA hb);clear hb hbox hg;have cn:=ai.out;have cp:=aq.out;have cx:=bz3 ag)|(refine gL (some 45) Try.func69 #[.int .i64 ((rd_T70 l1 ac).f1)] ?_;(with_reducible refine(impl_LengthCode.calls k1 ((rd_T70 l1 ac).f1) aW aX aY _ A19.out).mono ?_);rintro e w' ⟨rfl,⟨nd,rfl⟩⟩;refine⟨_,rfl,?_⟩;obtain⟨b6,bJ,b7⟩:=zY af.out;subst b7)|(refine gL (some 53) Try.func43 #[.pointer (some ⟨g,0,none⟩),.slice b6 am.length bJ,.slice A2 l2.length c2,.int .i64 aW] ?_;(with_reducible refine(impl_writer_symbol.calls k1 g aa ab _ _ am _ _ l2 aW bv bw w0 _ ?s1 ?s2 ?s3 ?s4 ?s5 ?s6 HC2.out ?s8 A20.out).mono ?_);(case s1=>exact iA);(case s2=>exact iC);(case s3=>refine(zJ (e:=3) (base:=w.heap.size) (ok:=fun k_=>some k_≠(aD:Value).ownBlock) (n:=am.length) (c:=bJ) ?_).2.2;exact(Kd.R_p (zj af.out ag.out (by decide))));(case s4=>exact(zJ af.out).2.1);(case s5=>intro ad_ he_ hn_;repeat (first|exact farW_slice (af.out) (IsS116.own_ne HI0.out af.out (by decide)) (by decide) ad_ he_ hn_|apply FarW.set|apply FarW.drewN|apply FarW.drew));(case s6=>exact Kd.C_keepW (b:=w0.heap.size) 0 HR2.out (iK HK) hf2);(case s8=>exact farW_keep (b:=w0.heap.size) (iK HK) (Kd.C_inW 0 HR2.out) hf2);rintro e w29 ⟨rfl,hi,hb,hk⟩;refine⟨_,rfl,?_⟩;replace af:=aM (zH (Kd.R_keepW (IsS116.apart (show IsS116 w0 _ g aa ab from iA) (Kd.R_p (zj af.out ag.out (by decide))) (by decide)) hk (fun _ h=>h.2)) (fun _ h=>h.1));replace ae:=aM (zH (Kd.R_keepW (IsS116.apart (show IsS116 w0 _ g aa ab from iA) (Kd.R_p (zj ae.out ag.out (by decide))) (by decide)) hk (fun _ h=>h.2)) (fun _ h=>h.1));replace ag:=aM (KeepW.blk hk (g':=ah) (o:=.cells #[.int .i64 ((rd_T70 l1 ac).f0),.int .i64 ((rd_T70 l1 ac).f1),.int .i64 ((rd_T70 l1 ac).f2)] 70 (0,0)) kB ai.out (by simp));replace HK:=aM (ZE (iK HK) hk (.inl rfl));replace HB:=aM hb;replace HI0:=aM hi;clear hb hk hi)|(refine gL (some 57) Try.func41 #[.pointer (some ⟨g,0,none⟩),.int .i64 aY,.int .i64 aX] ?_;(with_reducible refine(impl_writer_bits.calls k1 g bv bw aY aX bx bz w0 _ ?s1 ?s2 A21.out).mono ?_);(case s1=>exact iA);(case s2=>exact iC);rintro e w30 ⟨rfl,hi,hb,hk⟩;refine⟨_,rfl,?_⟩;replace af:=kW af hk;replace ae:=kW ae hk;replace ag:=aM (KeepW.blk hk (g':=ah) (o:=.cells #[.int .i64 ((rd_T70 l1 ac).f0),.int .i64 ((rd_T70 l1 ac).f1),.int .i64 ((rd_T70 l1 ac).f2)] 70 (0,0)) (bI ag.out) ai.out (by simp));replace HK:=aM (ZE (iK HK) hk (.inl rfl));replace HB:=aM hb;replace HI0:=aM hi;clear hb hk hi;have cy:=bz3 ag)|(refine gL (some 61) Try.func70 #[.int .i64 ((rd_T70 l1 ac).f2)] ?_;(with_reducible refine(impl_DistCode.calls k1 ((rd_T70 l1 ac).f2) aZ bb be _ A22.out).mono ?_);rintro e w' ⟨rfl,⟨nd,rfl⟩⟩;refine⟨_,rfl,?_⟩;obtain⟨b8,b9,ca⟩:=zY ae.out;subst ca)|(refine gL (some 69) Try.func43 #[.pointer (some ⟨g,0,none⟩),.slice b8 aC.length b9,.slice A3 l3.length c3,.int .i64 aZ] ?_;(with_reducible refine(impl_writer_symbol.calls k1 g bx bz _ _ aC _ _ l3 aZ bA bF w0 _ ?s1 ?s2 ?s3 ?s4 ?s5 ?s6 HC3.out ?s8 A23.out).mono ?_);(case s1=>exact iA);(case s2=>exact iC);(case s3=>exact Kd.C_i (zJ ae.out).2.2);(case s4=>exact(zJ ae.out).2.1);(case s5=>intro ad_ he_ hn_;repeat (first|exact farW_slice (ae.out) (IsS116.own_ne HI0.out ae.out (by decide)) (by decide) ad_ he_ hn_|apply FarW.set|apply FarW.drewN|apply FarW.drew));(case s6=>exact Kd.C_keepW (b:=w0.heap.size) 0 HR3.out (iK HK) hf3);(case s8=>exact farW_keep (b:=w0.heap.size) (iK HK) (Kd.C_inW 0 HR3.out) hf3);rintro e w33 ⟨rfl,hi,hb,hk⟩;refine⟨_,rfl,?_⟩;replace af:=kW af hk;replace ae:=kW ae hk;replace ag:=aM (KeepW.blk hk (g':=ah) (o:=.cells #[.int .i64 ((rd_T70 l1 ac).f0),.int .i64 ((rd_T70 l1 ac).f1),.int .i64 ((rd_T70 l1 ac).f2)] 70 (0,0)) (bI ag.out) ai.out (by simp));replace HK:=aM (ZE (iK HK) hk (.inl rfl));replace HB:=aM hb;replace HI0:=aM hi;clear hb hk hi)|(refine gL (some 73) Try.func41 #[.pointer (some ⟨g,0,none⟩),.int .i64 be,.int .i64 bb] ?_;(with_reducible refine(impl_writer_bits.calls k1 g bA bF be bb bG bH w0 _ ?s1 ?s2 A24.out).mono ?_);(case s1=>exact iA);(case s2=>exact iC);rintro e w34 ⟨rfl,hi,hb,hk⟩;refine⟨_,rfl,?_⟩;replace af:=kW af hk;replace ae:=kW ae hk;replace ag:=aM (KeepW.blk hk (g':=ah) (o:=.cells #[.int .i64 ((rd_T70 l1 ac).f0),.int .i64 ((rd_T70 l1 ac).f1),.int .i64 ((rd_T70 l1 ac).f2)] 70 (0,0)) (bI ag.out) ai.out (by simp));replace HK:=aM (ZE (iK HK) hk (.inl rfl));replace HB:=aM hb;replace HI0:=aM hi;clear hb hk hi));go_roundg k1
      case measure=>have:=HK1.out;omega
      case rel=>exact⟨(wrap64 (ac+1)),(bG),(bH),eQ,H',⟨by have:=HK1.out;omega⟩,⟨zA af.out⟩,⟨zA ae.out⟩,⟨iA⟩,⟨(iK HK)⟩,⟨iC⟩⟩
  · refine bdR fun⟨cd,ce⟩ A35=>?_;intro H
    try dsimp only at H
    simp only[zL,zM]at H;obtain⟨rfl,rfl⟩:=H;obtain⟨cg,ch,ci⟩:=zY af.out;subst ci
    go_wp2_with (first|(refine gL (some 78) Try.func43 #[.pointer (some ⟨g,0,none⟩),.slice cg am.length ch,.slice A2 l2.length c2,.int .i64 256] ?_;(with_reducible refine(impl_writer_symbol.calls k1 g aa ab _ _ am _ _ l2 256 cd ce w0 _ ?s1 ?s2 ?s3 ?s4 ?s5 ?s6 HC2.out ?s8 A35.out).mono ?_);(case s1=>exact iA);(case s2=>exact iC);(case s3=>exact Kd.C_i (zJ af.out).2.2);(case s4=>exact(zJ af.out).2.1);(case s5=>intro ad_ he_ hn_;repeat (first|exact farW_slice (af.out) (IsS116.own_ne HI0.out af.out (by decide)) (by decide) ad_ he_ hn_|apply FarW.set|apply FarW.drewN|apply FarW.drew));(case s6=>exact Kd.C_keepW (b:=w0.heap.size) 0 HR2.out (iK HK) hf2);(case s8=>exact farW_keep (b:=w0.heap.size) (iK HK) (Kd.C_inW 0 HR2.out) hf2);rintro e w37 ⟨rfl,hi,hb,hk⟩;refine⟨_,rfl,?_⟩;replace af:=kW af hk;replace ae:=kW ae hk;replace HK:=aM (ZE (iK HK) hk (.inl rfl));replace HB:=aM hb;replace HI0:=aM hi;clear hb hk hi))
    first|go_end0|((try simp only[Exit.inBlock,Exit.then]);refine bodyPost_ret (results_none rfl _ _ _) rfl ?_)
    exact⟨eE,iA,iC,(iK HK)⟩
end Go.Proofs.Ytldiiicbgdfapaa.PFnExactWovenBlock
