/- Walks of functions that the law reaches: each call comes to what the Lean function of its name tells. -/
import Derived.Test.YtldiiicbgdfapaaPFnExactWovenBlockx21
namespace Go.Proofs.Ytldiiicbgdfapaa.PFnExactWovenBlock
open Go.RowKit Go.Proofs.YtldiiicbgdfapaaW.PrintWords Go.Proofs.YtldiiicbgdfapaaW.PrintLast Go.Proofs.YtldiiicbgdfapaaW.PrintMore
attribute [local go_sem] max2_int min2_int max_two min_two max_three min_three max_four min_four
set_option linter.unusedVariables false
set_option maxHeartbeats 8000000
set_option maxRecDepth 100000
set_option linter.unusedSimpArgs false
def impl_writer_out.f (s0_0:ByteArray) (s0_1:Int):Option (ByteArray×Int×Bool×ByteArray×Int):=if 12000<s0_0.size then some ((⟨#[]⟩:ByteArray),0,false,s0_0,s0_1)else some (s0_0,s0_1,true,s0_0,s0_1)
theorem impl_writer_out.str (s:ByteArray):strOfNums (bytesOf s)=s:=by
  obtain⟨d⟩:=s
  simp only[strOfNums,bytesOf,List.map_map]
  congr 1
  apply Array.ext'
  simp only[List.toList_toArray]
  rw[List.map_congr_left (g:=id) (fun b _=>by simp[Function.comp])]
  simp
theorem impl_writer_out.calls (g:Nat) (s0_0:ByteArray) (s0_1:Int) (r1:ByteArray) (r2:Int) (r3:Bool) (r4:ByteArray) (r5:Int) (w0 w:World) (hI:IsS116 w0 w g s0_0 s0_1) (hB:Below w0.heap.size w0 w) (h:impl_writer_out.f s0_0 s0_1=some (r1,r2,r3,r4,r5)) :
 Calls Try.prog 46 #[.pointer (some ⟨g,0,none⟩)] w fun e w'=>e = .returned (.tuple #[.agg #[.string r1,.int .i64 r2],.bool r3])∧IsS116 w0 w' g r4 r5∧Below w0.heap.size w0 w'∧KeepW w0.heap.size w w' g none:=by
 have HB:=aM hB;have HI:=aM hI;clear hB hI;unfold impl_writer_out.f at h
 by_cases hl:12000<s0_0.size
 · rw[if_pos hl]at h;simp only[zL,zM]at h;obtain⟨rfl,rfl,rfl,rfl,rfl⟩:=h;have hl1:decide ((12000:Int)<(s0_0.size:Int))=true:=zN (by omega);have hl2:decide (12000<s0_0.size)=true:=zN hl;clear hl;go_enter Try.func46,Try.ntmps46
   go_wp2_with (first|(refine bE 2 #[.string (⟨#[]⟩:ByteArray),.int .i64 0] 27 ?_;intro gb hg w2 hbox hb;have HI2:=aM (IsS116.below HI.out hb);have HB2:=aM (below_step HB.out hb);have HK2:=aM (show KeepW w0.heap.size w w2 g none from KeepW.of_below hb g none);have BK:=aM hbox;have GE:=aM (show w0.heap.size≤gb by rw[hg];exact HB.out.size);have GW:=aM (show w.heap.size≤gb by rw[hg];exact zI _);have NB:=aM (show g≠gb by rw[hg];exact Nat.ne_of_lt (IsS116.lt HI.out));clear hb hbox hg HI;obtain⟨rb,c,hb,h1,h2,h3⟩:=HI2.out;obtain⟨hc0,hc1⟩:=blk_c2 hb;have hrow:=aM h3;clear hb h1 h2 h3;obtain⟨hcz0,hcz1⟩:=blk_c2 BK.out;obtain⟨hfz0,hfz1⟩:=blk_f2 BK.out;have aa:=NB.out;have ab:=NB.out.symm))
   refine bodyPost_ret (results_ct rfl _ _ gb 27 #[.string (⟨#[]⟩:ByteArray),.int .i64 0] (0,0) _ rfl (by(with_reducible repeat (first|refine z7 ?_ _|refine z8 ?_|refine z9 ?_ _));refine blk_put (cs:=#[.string (⟨#[]⟩:ByteArray),.int .i64 0]) ?_ 1 _ rfl;(with_reducible repeat (first|refine z7 ?_ _|refine z8 ?_|refine z9 ?_ _));refine blk_put (cs:=#[.string (⟨#[]⟩:ByteArray),.int .i64 0]) ?_ 0 _ rfl;(with_reducible repeat (first|refine z7 ?_ _|refine z8 ?_|refine z9 ?_ _));exact BK.out) Try.underlying27 rfl (by kernel_rfl)) rfl ?_;exact⟨by first|rfl|(simp;done),by repeat (first|(with_reducible first|exact HI2.out|apply IsS116.alloc|apply IsS116.drewN|apply IsS116.drew|refine IsS116.farT ?_ NB.out _ (by repeat (first|(with_reducible first|exact TypB.of BK.out|apply TypB.set|apply TypB.alloc|apply TypB.drewN|apply TypB.drew)|exact TypB.of BK.out)) (by decide))|exact HI2.out),by repeat (first|(with_reducible first|exact HB2.out|apply zz|apply zx|apply zy|refine below_set ?_ GE.out)|exact HB2.out),by repeat (first|(with_reducible first|exact HK2.out|apply keepW_drewN|apply keepW_drew|apply keepW_alloc|refine keepW_far ?_ GW.out _)|exact HK2.out)⟩
 · rw[if_neg hl]at h;simp only[zL,zM]at h;obtain⟨rfl,rfl,rfl,rfl,rfl⟩:=h;have hl1:decide ((12000:Int)<(s0_0.size:Int))=false:=zO (by omega);have hl2:decide (12000<s0_0.size)=false:=zO hl;clear hl;go_enter Try.func46,Try.ntmps46
   go_wp2_with (first|(refine bE 2 #[.string (⟨#[]⟩:ByteArray),.int .i64 0] 27 ?_;intro gb hg w2 hbox hb;have HI2:=aM (IsS116.below HI.out hb);have HB2:=aM (below_step HB.out hb);have HK2:=aM (show KeepW w0.heap.size w w2 g none from KeepW.of_below hb g none);have BK:=aM hbox;have GE:=aM (show w0.heap.size≤gb by rw[hg];exact HB.out.size);have GW:=aM (show w.heap.size≤gb by rw[hg];exact zI _);have NB:=aM (show g≠gb by rw[hg];exact Nat.ne_of_lt (IsS116.lt HI.out));clear hb hbox hg HI;obtain⟨rb,c,hb,h1,h2,h3⟩:=HI2.out;obtain⟨hc0,hc1⟩:=blk_c2 hb;have hrow:=aM h3;clear hb h1 h2 h3;obtain⟨hcz0,hcz1⟩:=blk_c2 BK.out;obtain⟨hfz0,hfz1⟩:=blk_f2 BK.out;have aa:=NB.out;have ab:=NB.out.symm));have hsz:=Go.Proofs.Ytldiiicbgdfapaa.HandKit.bytesOf_len s0_0;have hv:=hrow.out;have hcv:∀ n,(convert 36 9 (.slice (some ⟨rb,0,none⟩) s0_0.size c)).run Try.prog (w2.drewN n) = .ok (.string s0_0) (w2.drewN n):=by
    intro n;have:=Go.Proofs.Ytldiiicbgdfapaa.HandKit.BytesRow.string (P:=Try.prog) (hv.drewN n) Try.underlying36 Try.underlying5 Try.underlying9 hsz c
    rw[this,impl_writer_out.str]
   refine start_ (n:=12) (S:=fun w'=>w'.cell? ⟨g,0,none⟩=some (.slice (some ⟨rb,0,none⟩) s0_0.size c)∧w'.cell? ⟨g,1,none⟩=some (.int .i64 s0_1)∧(convert 36 9 (.slice (some ⟨rb,0,none⟩) s0_0.size c)).run Try.prog w' = .ok (.string s0_0) w') (ds:=[10]) (bAr 12 0) (by kernel_rfl) rfl rfl ⟨hc0,hc1,hcv 1⟩ (fun hHeld=>?_)
   refine pX 0 11 (bAr 12 1) ?_
   refine pX 1 12 (bAr 12 3) ?_
   refine pX 2 13 (bAr 12 7) ?_
   refine tK 3 14 (bAr 12 15) ?_
   refine tK 4 15 (bAr 12 31) ?_
   refine pX 5 16 (bAr 12 63) ?_
   refine pX 6 17 (bAr 12 127) ?_
   refine pX 7 18 (bAr 12 255) ?_
   refine tK 8 19 (bAr 12 511) ?_
   refine pX 9 20 (bAr 12 1023) ?_
   refine last_ (i:=10) (N:=none) (bAr 12 2047) rfl rfl (by kernel_rfl) (by decide) (fun K hK=>?_)
   refine skip_ (w1:=?_) (by rfl) rfl ?_ ?_;rotate_left
   · go_simp
     rfl
   refine hK.out _ _ ?_;clear hK K
   refine pX 11 3 (bAr 12 4095) ?_
   refine done_ (by kernel_rfl) ?_;go_wp2
   refine bodyPost_ret (results_ct rfl _ _ gb 27 #[.string s0_0,.int .i64 s0_1] (0,0) _ rfl (by(with_reducible repeat (first|refine z7 ?_ _|refine z8 ?_|refine z9 ?_ _));refine blk_put (cs:=#[.string s0_0,.int .i64 0]) ?_ 1 _ rfl;(with_reducible repeat (first|refine z7 ?_ _|refine z8 ?_|refine z9 ?_ _));refine blk_put (cs:=#[.string (⟨#[]⟩:ByteArray),.int .i64 0]) ?_ 0 _ rfl;(with_reducible repeat (first|refine z7 ?_ _|refine z8 ?_|refine z9 ?_ _));exact BK.out) Try.underlying27 rfl (by kernel_rfl)) rfl ?_;exact⟨by first|rfl|(simp;done),by repeat (first|(with_reducible first|exact HI2.out|apply IsS116.alloc|apply IsS116.drewN|apply IsS116.drew|refine IsS116.farT ?_ NB.out _ (by repeat (first|(with_reducible first|exact TypB.of BK.out|apply TypB.set|apply TypB.alloc|apply TypB.drewN|apply TypB.drew)|exact TypB.of BK.out)) (by decide))|exact HI2.out),by repeat (first|(with_reducible first|exact HB2.out|apply zz|apply zx|apply zy|refine below_set ?_ GE.out)|exact HB2.out),by repeat (first|(with_reducible first|exact HK2.out|apply keepW_drewN|apply keepW_drew|apply keepW_alloc|refine keepW_far ?_ GW.out _)|exact HK2.out)⟩
end Go.Proofs.Ytldiiicbgdfapaa.PFnExactWovenBlock
