/-
  What the functions divide do, each call by call.
  Parts of a text by the abstract run, operations between them by hand.
  The end of a text whose results are new slices, behind a beginning by hand.
  A variable that holds a map from texts to slices, and a number: what memory behind it stands for.
  A slice of the map grows by one element.
  Points of a circle, in the order in which they are reached: two ways to say it.
  Three points of a circle, one behind the other, turn to the left.
  An arc through three points contains the second one.
  Intervals of machine integers, and products of two words.
  What the filter computes with its intervals, in plain integers and fractions.
  Conditions: none.
-/
import Derived.Test.YtbbfmlhkgceabaaGreatM8
import Derived.Test.YtbbfmlhkgceabaaGreatChecked
import Derived.Maps.Own
import Derived.Maps.Views
set_option linter.all false
namespace Go.Proofs.YtbbfmlhkgceabaaGreat
open Go Go.RowKit Go.Sw
set_option linter.unusedVariables false
set_option maxRecDepth 20000
namespace TfR
theorem body147:hasBody Tryz.prog 147=true:=by kernel_rfl
theorem body183:hasBody Tryz.prog 183=true:=by kernel_rfl
theorem body184:hasBody Tryz.prog 184=true:=by kernel_rfl
theorem body185:hasBody Tryz.prog 185=true:=by kernel_rfl
theorem body96:hasBody Tryz.prog 96=true:=by kernel_rfl
theorem body98:hasBody Tryz.prog 98=true:=by kernel_rfl
theorem el158:Sw.elemOf Tryz.prog 158=some (#[.int .u32 0],1,4):=by kernel_rfl
theorem mixed:Tryz.prog.follows .mixedOrders=true:=by kernel_rfl
theorem one158:isOne Tryz.prog 158=true:=by kernel_rfl
theorem size158:(Tryz.prog.info? 158).map (λi=>i.size)=some 1:=by kernel_rfl
theorem sl28:sliceOf Tryz.prog 28=some (158,1):=by kernel_rfl
theorem sls28:(sliceOf Tryz.prog 28).isSome=true:=by kernel_rfl
theorem und134:Tryz.prog.underlying 134=some (TypeDesc.int .u64):=by kernel_rfl
theorem und158:Tryz.prog.underlying 158=some (TypeDesc.int .u32):=by kernel_rfl
theorem unds134:(Tryz.prog.underlying 134).isSome=true:=by kernel_rfl
theorem unds158:(Tryz.prog.underlying 158).isSome=true:=by kernel_rfl
end TfR
set_option maxHeartbeats 4000000 in
theorem integer_divide_ok{w:World}{X:List Nat}(hX:∀m∈X,m<w.heap.size){v_a:Value}{a:List Nat}(h_a:UL w X v_a (a)){v_b:Value}{b:List Nat}(h_b:UL w X v_b (b))(hn_a:a.length≤100000000000)(hn_b:b.length≤100000000000)(hb_a:Lb a)(hb_b:Lb b)(hpos:0<val b):
 Calls Tryz.prog 149 #[v_a,v_b] w (Ret λr w'=>(∃qs:List Nat,∃rs:List Nat,∃r0 r1,r=.tuple #[r0,r1]∧UL w' X r0 (qs)∧UL w' X r1 (rs)∧Lb qs∧Lb rs∧val a=val b*val qs+val rs∧val rs<val b∧qs.length=dql a b∧rs.length=drl a b)∧Below w.heap.size w w'):=by
 refine enter (N:=179) (fn:=Tryz.f149) (vs:=[v_a,v_b]) Tryz.func149 rfl rfl rfl ?_
 intro fa hF
 obtain ⟨A_a,_,c_a,rfl,rfl,hu_a⟩:=h_a
 have hl_a:=hu_a.len;have hc_a:=hu_a.cap
 obtain ⟨A_b,_,c_b,rfl,rfl,hu_b⟩:=h_b
 have hl_b:=hu_b.len;have hc_b:=hu_b.cap
 replace hF:Frm 179 fa [(0,(.slice (A_a) (a.length) (c_a))),(1,(.slice (A_b) (b.length) (c_b)))]:=hF
 have hS:=St.refl w
 have hca:=can_trimz hb_a;have hcb:=can_trimz hb_b
 have hva:=val_trimz a;have hvb0:=val_trimz b
 have hla:=trimz_length_le a;have hlb:=trimz_length_le b
 have hbn:0<(trimz b).length:=by cases hq:trimz b with|nil=>rw [hq] at hvb0;simp [val] at hvb0;omega|cons _ _=>simp
 refine c_seq ?_
 refine c_reg ?_
 refine pr hF (pa rfl <| pa rfl <| PR.nil) ?_
 clear hF fa;intro fa hF
 refine c_nil_then ?_
 refine c_seq ?_
 refine c_reg ?_
 refine pr hF (pm rfl <| PR.nil) ?_
 clear hF fa;intro fa hF
 have hC:=integer_trim_ok (w:=w) (X:=X) (l:=a) (hS.bnd hX) ⟨_,(a.length),_,rfl,(rfl),hu_a⟩
 refine st rfl (op_call hF rfl TfR.body147 (args1 (hF.ev rfl)) hC ?_)
 clear hC
 rintro _ w1 ⟨⟨A4,_,c5,rfl,rfl,hu6⟩,hb2⟩
 refine gen_ ?_;clear hF fa;intro fa hF
 replace hS:=hS.call hb2;have E3:=Ext.call X hb2
 refine pr hF (pm rfl <| PR.nil) ?_
 clear hF fa;intro fa hF
 have hC:=integer_trim_ok (w:=w1) (X:=X) (l:=b) (hS.bnd hX) ⟨_,(b.length),_,rfl,(rfl),(hu_b.ext E3)⟩
 refine st rfl (op_call hF rfl TfR.body147 (args1 (hF.ev rfl)) hC ?_)
 clear hC
 rintro _ w7 ⟨⟨A10,_,c11,rfl,rfl,hu12⟩,hb8⟩
 refine gen_ ?_;clear hF fa;intro fa hF
 replace hS:=hS.call hb8;have E9:=Ext.call X hb8
 refine pr hF (pa rfl <| pa rfl <| PR.nil) ?_
 clear hF fa;intro fa hF
 refine c_nil_then ?_
 refine c_seq ?_
 refine c_seq ?_
 refine c_reg ?_
 refine pr hF (pm rfl <| pg (λ_ hF=>ex_len TfR.sls28 (hF.ev rfl)) <| pg (λ_ hF=>ex_eql (hF.ev rfl) (hF.ev rfl)) <| PR.nil) ?_
 clear hF fa;intro fa hF
 refine c_nil_then ?_
 refine c_cond hF rfl (λhc13=>?_) (λhc13=>?_)
 ·
  have hc13p:(((trimz b).length:Nat):Int)=1:=by first|simpa using hc13|exact bang_t hc13|exact bang_f hc13
  have h1b:=val_len1 (l:=trimz b) (by omega)
  refine c_seq ?_
  refine c_reg ?_
  refine pr hF (pm rfl <| pm rfl <| PR.nil) ?_
  clear hF fa;intro fa hF
  obtain ⟨ad14,hA15,hq16⟩:=hu12.cl.at_ (us_get (l:=(trimz b)) (i:=0) (by omega))
  refine pr hF (pg (λ_ hF=>ex_idx (j:=0) TfR.sl28 (hF.ev rfl) hA15 (hF.ev rfl) (by omega) (by omega)) <| pg (λ_ hF=>ex_load1 TfR.one158 (hF.ev rfl) hq16) <| PR.nil) ?_
  clear hF fa;intro fa hF
  have hC:=integer_byWord_ok (w:=w7) (X:=X) (a:=(trimz a)) (hS.bnd hX) ⟨_,((trimz a).length),_,rfl,(rfl),(hu6.ext E9)⟩ ((trimz b).getD (0) 0) (by omega) (hca.1) (by omega) (hcb.1.getD 0)
  refine st rfl (op_call hF rfl TfR.body183 (args2 (hF.ev rfl) (hF.ev (ev_int (b:=(((trimz b).getD (0) 0:Nat):Int)) rfl (by first|rfl|omega)))) hC ?_)
  clear hC
  rintro _ w17 ⟨⟨qs_20,rs_21,_,_,rfl,⟨A22,_,c23,rfl,rfl,hu24⟩,⟨A25,_,c26,rfl,rfl,hu27⟩,hp28,hp29,hp30,hp31,hp32,hp33⟩,hb18⟩
  refine gen_ ?_;clear hF fa;intro fa hF
  replace hS:=hS.call hb18;have E19:=Ext.call X hb18
  have hw_lq:=hp28;have hw_lr:=hp29;have hw_v:=hp30;have hw_l:=hp31;have hw_q:=hp32;have hw_r:=hp33
  refine pr hF (px rfl rfl <| px rfl rfl <| pa rfl <| pa rfl <| PR.nil) ?_
  clear hF fa;intro fa hF
  replace hF:Frm 179 fa [(0,(.slice (A4) ((trimz a).length) (c5))),(1,(.slice (A10) ((trimz b).length) (c11))),(4,(.slice (A22) (qs_20.length) (c23))),(5,(.slice (A25) (rs_21.length) (c26))),(23,(.bool (decide ((((trimz b).length:Nat):Int)=1))))]:=(hF.all ⟨rfl,rfl,rfl,rfl,rfl,trivial⟩)
  refine c_nil_then ?_
  refine c_ret ?_
  refine x_tr ?_
  refine end2 hF rfl (res_tmp hF rfl) (res_tmp hF rfl) ?_
  exact ⟨_,rfl,⟨qs_20,rs_21,_,_,rfl,(UL.fin (L:=qs_20) ⟨_,_,_,rfl,(rfl),hu24⟩ (rfl) (λx hx=>by simp [hx])),(UL.fin (L:=rs_21) ⟨_,_,_,rfl,(rfl),hu27⟩ (rfl) (λx hx=>by simp [hx])),(hw_lq),(hw_lr),(by rw [← hva,← hvb0,h1b];exact hw_v),(by rw [← hvb0,h1b];exact hw_l),(by unfold dql;rw [if_pos (by omega)];omega),(by unfold drl;rw [if_pos (by omega)];omega)⟩,hS.below⟩
 have hc13p:¬ ((((trimz b).length:Nat):Int)=1):=by first|simpa using hc13|exact bang_t hc13|exact bang_f hc13
 have hn2:2≤(trimz b).length:=by omega
 refine c_skip ?_
 refine x_tn ?_
 refine c_seq ?_
 refine c_seq ?_
 refine c_reg ?_
 refine pr hF (pm rfl <| pm rfl <| PR.nil) ?_
 clear hF fa;intro fa hF
 have hC:=integer_compare_ok (w:=w7) (X:=X) (a:=(trimz a)) (b:=(trimz b)) (hS.bnd hX) ⟨_,((trimz a).length),_,rfl,(rfl),(hu6.ext E9)⟩ ⟨_,((trimz b).length),_,rfl,(rfl),hu12⟩ (hca.1) (hcb.1)
 refine st rfl (op_call hF rfl TfR.body96 (args2 (hF.ev rfl) (hF.ev rfl)) hC ?_)
 clear hC
 rintro _ w34 ⟨rfl,hb35⟩
 refine gen_ ?_;clear hF fa;intro fa hF
 replace hS:=hS.call hb35;have E36:=Ext.call X hb35
 refine pr hF (pg (λ_ hF=>ex_lss (hF.ev rfl) (hF.ev rfl)) <| PR.nil) ?_
 clear hF fa;intro fa hF
 refine c_nil_then ?_
 refine c_cond hF rfl (λhc37=>?_) (λhc37=>?_)
 ·
  have hc37p:(cmpN (val ((trimz a))) (val ((trimz b))))<0:=by first|simpa using hc37|exact bang_t hc37|exact bang_f hc37
  have hlt0:=cmpN_lt0.1 hc37p
  refine c_seq ?_
  refine c_reg ?_
  refine pr hF (pm rfl <| PR.nil) ?_
  clear hF fa;intro fa hF
  refine st rfl (op_append (X:=X) (F:=[]) (So:=[]) (l:=us ([])) (m:=us ((trimz a))) hF hS rfl TfR.sl28 TfR.el158 rfl rfl rfl (by simp) (OwV.nil 158) (hu6.ext (E9.trans E36)).cl (us_one _) (by simp;omega) (by simp;omega) ?_)
  intro v38 So39 w40 hO41 hS E42 hun43;refine gen_ ?_;clear hF fa;intro fa hF
  clear hun43
  rw [← us_append] at hO41
  simp only [List.nil_append] at hO41
  replace E42:Ext w34 X w40 (bl So39++X):=E42
  replace hS:St w w40 So39:=hS
  refine pr hF (pa rfl <| pa rfl <| PR.nil) ?_
  clear hF fa;intro fa hF
  refine c_nil_then ?_
  refine c_ret ?_
  refine x_tr ?_
  refine end2 hF rfl (res_tmp hF rfl) (res_tmp hF rfl) ?_
  exact ⟨_,rfl,⟨[],(trimz a),_,_,rfl,(UL.nil_ _ _),(UL.fin (UC.of_ow (F:=[]) hO41 hS hX) (rfl) (λ_ h=>h)),(Lb.nil),(hca.1),(by rw [hva];simp [val]),(by omega),(by unfold dql;rw [if_neg (by omega),if_pos (by omega)];rfl),(by unfold drl;rw [if_neg (by omega),if_pos (by omega)])⟩,hS.below⟩
 have hc37p:¬ ((cmpN (val ((trimz a))) (val ((trimz b))))<0):=by first|simpa using hc37|exact bang_t hc37|exact bang_f hc37
 have hle0:val (trimz b)≤val (trimz a):=by have:=mt cmpN_lt0.2 hc37p;omega
 have hlen:=len_le_of_val hca hcb hle0
 have hbtop:=hcb.1.getD ((trimz b).length-1)
 refine c_skip ?_
 refine x_tn ?_
 refine c_seq ?_
 refine c_reg ?_
 refine pr hF (pm rfl <| pg (λ_ hF=>ex_len TfR.sls28 (hF.ev rfl)) <| pa rfl <| PR.nil) ?_
 clear hF fa;intro fa hF
 refine c_nil_then ?_
 refine c_seq ?_
 refine c_reg ?_
 refine pr hF (pm rfl <| pm rfl <| pg (λ_ hF=>ex_sub (hF.ev rfl) (hF.ev rfl) vi64) <| PR.nil) ?_
 clear hF fa;intro fa hF
 obtain ⟨ad44,hA45,hq46⟩:=(hu12.ext E36).cl.at_ (us_get (l:=(trimz b)) (i:=(trimz b).length-1) (by omega))
 refine pr hF (pg (λ_ hF=>ex_idx (j:=(trimz b).length-1) TfR.sl28 (hF.ev rfl) hA45 (hF.ev rfl) (by omega) (by omega)) <| pg (λ_ hF=>ex_load1 TfR.one158 (hF.ev rfl) hq46) <| pg (λ_ hF=>ex_conv TfR.unds158 TfR.und134 (hF.ev rfl) (wu64n (by omega))) <| pg (λ_ hF=>ex_add (hF.ev rfl) (hF.ev rfl) vu64) <| pg (λ_ hF=>ex_quo (hF.ev rfl) (hF.ev rfl) (by omega) (q_u64 (x:=1000000000) (y:=((trimz b).getD ((trimz b).length-1) 0)+1) (by omega) (by omega) (by omega))) <| pg (λ_ hF=>ex_conv TfR.unds134 TfR.und158 (hF.ev rfl) (wu32n (by have:=Nat.div_le_self 1000000000 ((trimz b).getD ((trimz b).length-1) 0+1);omega))) <| pa rfl <| PR.nil) ?_
 clear hF fa;intro fa hF
 replace hF:Frm 179 fa [(0,(.slice (A4) ((trimz a).length) (c5))),(1,(.slice (A10) ((trimz b).length) (c11))),(4,(.slice (none) (0) (0))),(5,(.slice (none) (0) (0))),(23,(.bool (decide ((((trimz b).length:Nat):Int)=1)))),(34,(.bool (decide ((cmpN (val ((trimz a))) (val ((trimz b))))<0)))),(6,(.int .i64 ((((trimz b).length:Nat):Int)))),(7,(.int .u32 (((1000000000 / (((trimz b).getD ((trimz b).length-1) 0)+1):Nat):Int))))]:=(hF.all ⟨rfl,rfl,rfl,rfl,rfl,rfl,rfl,rfl,trivial⟩)
 refine c_nil_then ?_
 refine c_seq ?_
 obtain ⟨sc,hsc⟩:∃sc,sc=1000000000 / ((trimz b).getD ((trimz b).length-1) 0+1):=⟨_,rfl⟩
 rw [← hsc] at hF
 have hscB:=scale_lt hcb rfl hbn hsc
 refine c_reg ?_
 refine pr hF (pm rfl <| pm rfl <| PR.nil) ?_
 clear hF fa;intro fa hF
 refine st rfl (op_lit (X:=X) hF hS (hS.bnd hX) rfl TfR.sl28 TfR.el158 rfl rfl (lits1 (hF.ev (ev_int (b:=((sc:Nat):Int)) rfl (by omega)))) (fill_u1 (x:=sc)) ?_)
 intro g47 w48 hg50 hS E49 hc51;refine gen_ ?_;clear hF fa;intro fa hF
 have hu52:=UC.one (l:=[sc]) hc51 (by simp)
 have hC:=integer_times_ok (w:=w48) (X:=X) (a:=(trimz a)) (b:=([sc])) (hS.bnd hX) ⟨_,((trimz a).length),_,rfl,(rfl),(hu6.ext ((E9.trans E36).trans E49))⟩ ⟨_,(1),_,rfl,(rfl),hu52⟩ (by omega) (by simp) (hca.1) (Lb.cons hscB Lb.nil)
 refine st rfl (op_call hF rfl TfR.body98 (args2 (hF.ev rfl) (hF.ev rfl)) hC ?_)
 clear hC
 rintro _ w53 ⟨⟨o_56,⟨g57,rfl,hq58,hg59⟩,hp60,hp61,hp62⟩,hb54⟩
 refine gen_ ?_;clear hF fa;intro fa hF
 replace hS:=hS.push_new hb54 hq58 hg59;have E55:=Ext.push_new X hb54 hg59
 simp [val] at hp61 hp62
 have hol:=hp62;have hob:=hp60
 have hu0:val (o_56++[0])=val a*sc:=by rw [val_snoc0,hp61,hva]
 refine st rfl (op_lit (X:=(g57 :: X)) hF hS (hS.bnd hX) rfl TfR.sl28 TfR.el158 rfl rfl (lits1 (hF.ev (ev_int (b:=((0:Nat):Int)) rfl (by omega)))) (fill_u1 (x:=0)) ?_)
 intro g63 w64 hg66 hS E65 hc67;refine gen_ ?_;clear hF fa;intro fa hF
 have hu68:=UC.one (l:=[0]) hc67 (by simp)
 refine st rfl (op_append (X:=X) (F:=[]) (So:=[(g57,158,(us (o_56)).toArray)]) (l:=us (o_56)) (m:=us ([0])) hF hS rfl TfR.sl28 TfR.el158 rfl rfl rfl (by simp) (OwV.full 158 g57 (o_56) (o_56.length) (o_56.length) (by first|rfl|(simp;done)|omega) (by first|rfl|(simp;done)|omega) (by first|omega|(simp;omega))) hu68.cl (us_one _) (by simp;omega) (by simp;omega) ?_)
 intro v69 So70 w71 hO72 hS E73 hun74;refine gen_ ?_;clear hF fa;intro fa hF
 clear hun74
 rw [← us_append] at hO72
 replace E73:Ext w64 (g57 :: X) w71 (bl So70++X):=E73
 replace hS:St w w71 So70:=hS
 obtain ⟨g75,c76,R77,hs81,hv78,hcl79,hcm80⟩:=OwV.settle hO72 (by simp)
 unfold maxLen at hcm80
 subst hs81;subst hv78
 have hs81_:(o_56++([0])).length=(trimz a).length+2:=by simp;omega
 rw [hs81_] at hF hcl79
 refine pr hF (pa rfl <| PR.nil) ?_
 clear hF fa;intro fa hF
 refine c_nil_then ?_
 refine c_seq ?_
 refine c_reg ?_
 refine pr hF (pm rfl <| pm rfl <| PR.nil) ?_
 clear hF fa;intro fa hF
 refine st rfl (op_lit (X:=(g75 :: X)) hF hS (hS.bnd hX) rfl TfR.sl28 TfR.el158 rfl rfl (lits1 (hF.ev (ev_int (b:=((sc:Nat):Int)) rfl (by omega)))) (fill_u1 (x:=sc)) ?_)
 intro g82 w83 hg85 hS E84 hc86;refine gen_ ?_;clear hF fa;intro fa hF
 have hu87:=UC.one (l:=[sc]) hc86 (by simp)
 have hC:=integer_times_ok (w:=w83) (X:=(g75 :: X)) (a:=(trimz b)) (b:=([sc])) (hS.bnd hX) ⟨_,((trimz b).length),_,rfl,(rfl),(hu12.ext (((((E36.trans E49).trans E55).trans E65).trans E73).trans E84))⟩ ⟨_,(1),_,rfl,(rfl),hu87⟩ (by omega) (by simp) (hcb.1) (Lb.cons hscB Lb.nil)
 refine st rfl (op_call hF rfl TfR.body98 (args2 (hF.ev rfl) (hF.ev rfl)) hC ?_)
 clear hC
 rintro _ w88 ⟨⟨o_91,⟨g92,rfl,hq93,hg94⟩,hp95,hp96,hp97⟩,hb89⟩
 refine gen_ ?_;clear hF fa;intro fa hF
 replace hS:=hS.push_new hb89 hq93 hg94;have E90:=Ext.push_new (g75 :: X) hb89 hg94
 simp [val] at hp96 hp97
 have hcv:=can_trimz hp95
 obtain ⟨hsc0,_,hvn,hvtop,hvP⟩:=scale_law (v:=trimz o_91) hcb rfl hbn hsc hcv (by rw [val_trimz,hp96])
 have hvb:=hcv.1
 have hvL:=λi=>hvb.getD i
 have hV:val (trimz o_91)=val b*sc:=by rw [val_trimz,hp96,hvb0]
 have hVM:val (trimz o_91)≤1000000000 ^ ((trimz b).length+1):=by have h0:=val_lt _ hvb;rw [hvn] at h0;have:=Nat.pow_le_pow_right (n:=1000000000) (by omega) (show (trimz b).length≤(trimz b).length+1 by omega);omega
 obtain ⟨hS1,hn1⟩:=hS.out hX 0 rfl
 have hu98:=UC.of_box (L:=o_91) (hS.get 0 rfl) hn1 (by first|omega|(simp;omega))
 have E99:Ext w88 (g92 :: (g75 :: X)) w88 (g75 :: X):=Ext.drop (by simp +contextual)
 replace hu98:UC w88 (g75 :: X) (some ⟨g92,0,none⟩) (o_91).length (o_91):=hu98
 replace hS:St w w88 [(g75,158,(us (o_56++([0]))++R77).toArray)]:=hS1;clear hn1
 have hC:=integer_trim_ok (w:=w88) (X:=(g75 :: X)) (l:=o_91) (hS.bnd hX) (UL.cap (n:=o_91.length) (c:=o_91.length) hu98 (by first|rfl|(simp;done)|omega) (by first|rfl|(simp;done)|omega))
 refine st rfl (op_call hF rfl TfR.body147 (args1 (hF.ev rfl)) hC ?_)
 clear hC
 rintro _ w100 ⟨⟨A103,_,c104,rfl,rfl,hu105⟩,hb101⟩
 refine gen_ ?_;clear hF fa;intro fa hF
 replace hS:=hS.call hb101;have E102:=Ext.call (g75 :: X) hb101
 refine pr hF (pa rfl <| PR.nil) ?_
 clear hF fa;intro fa hF
 refine c_nil_then ?_
 refine c_seq ?_
 refine c_reg ?_
 refine pr hF (pm rfl <| pg (λ_ hF=>ex_len TfR.sls28 (hF.ev rfl)) <| pm rfl <| pg (λ_ hF=>ex_sub (hF.ev rfl) (hF.ev rfl) vi64) <| PR.nil) ?_
 clear hF fa;intro fa hF
 refine st rfl (op_make (X:=(g75 :: X)) (nl:=((trimz a).length+2)-((trimz b).length)) (nc:=((trimz a).length+2)-((trimz b).length)) hF hS rfl TfR.sl28 TfR.el158 rfl rfl (by omega) (by omega) (by omega) (by omega) (by omega) (made_us _) ?_)
 intro g106 w107 hg109 hS E108;refine gen_ ?_;clear hF fa;intro fa hF
 rw [Nat.mul_one] at hS
 refine pr hF (pa rfl <| PR.nil) ?_
 clear hF fa;intro fa hF
 replace hF:Frm 179 fa [(0,(.slice (A4) ((trimz a).length) (c5))),(1,(.slice (A10) ((trimz b).length) (c11))),(4,(.slice (none) (0) (0))),(5,(.slice (none) (0) (0))),(23,(.bool (decide ((((trimz b).length:Nat):Int)=1)))),(34,(.bool (decide ((cmpN (val ((trimz a))) (val ((trimz b))))<0)))),(6,(.int .i64 ((((trimz b).length:Nat):Int)))),(7,(.int .u32 (((sc:Nat):Int)))),(8,(.slice (some ⟨g75,0,none⟩) ((trimz a).length+2) (c76))),(9,(.slice (A103) ((trimz o_91).length) (c104))),(10,(.slice (some ⟨g106,0,none⟩) (((trimz a).length+2)-((trimz b).length)) (((trimz a).length+2)-((trimz b).length))))]:=(hF.all ⟨rfl,rfl,rfl,rfl,rfl,rfl,rfl,rfl,rfl,rfl,rfl,trivial⟩)
 refine c_nil_then ?_
 refine c_seq ?_
 refine c_seq ?_
 refine c_reg ?_
 refine pr hF (pm rfl <| pg (λ_ hF=>ex_len TfR.sls28 (hF.ev rfl)) <| pm rfl <| pg (λ_ hF=>ex_sub (hF.ev rfl) (hF.ev rfl) vi64) <| pg (λ_ hF=>ex_sub (hF.ev rfl) (hF.ev rfl) vi64) <| pa rfl <| PR.nil) ?_
 clear hF fa;intro fa hF
 refine c_nil_then ?_
 refine c_block ?_
 refine c_loop (λmu fa w'=>∃U:List Nat,∃Q:List Nat,∃j:Nat,Frm 179 fa [(0,(.slice (A4) ((trimz a).length) (c5))),(1,(.slice (A10) ((trimz b).length) (c11))),(4,(.slice (none) (0) (0))),(5,(.slice (none) (0) (0))),(23,(.bool (decide ((((trimz b).length:Nat):Int)=1)))),(34,(.bool (decide ((cmpN (val ((trimz a))) (val ((trimz b))))<0)))),(6,(.int .i64 ((((trimz b).length:Nat):Int)))),(7,(.int .u32 (((sc:Nat):Int)))),(8,(.slice (some ⟨g75,0,none⟩) ((trimz a).length+2) (c76))),(9,(.slice (A103) ((trimz o_91).length) (c104))),(10,(.slice (some ⟨g106,0,none⟩) (((trimz a).length+2)-((trimz b).length)) (((trimz a).length+2)-((trimz b).length)))),(11,(.int .i64 (((j:Nat):Int)-1)))]∧St w w' [(g106,158,(us (Q)).toArray),(g75,158,(us (U)++R77).toArray)]∧Ext w107 (g106 :: (g75 :: X)) w' (g106 :: (g75 :: X))∧(j≤(trimz a).length+2-(trimz b).length)∧(U.length=(trimz a).length+2)∧(Lb U)∧(Q.length=(trimz a).length+2-(trimz b).length)∧(Lb Q)∧(DivInv (val a*sc) (val (trimz o_91)) U Q j)∧j=mu) ?_ ?_
 ·
  exact ⟨_,o_56++([0]),List.replicate (((trimz a).length+2)-((trimz b).length)) 0,((trimz a).length+2-(trimz b).length),(hF.all ⟨rfl,rfl,rfl,rfl,rfl,rfl,rfl,rfl,rfl,rfl,rfl,(lk_int rfl (by omega)),trivial⟩),hS,Ext.refl _ _,(Nat.le_refl _),(by simp;omega),(lb_snoc hob (by omega)),(by simp),(lb_zeros _),(by rw [← hu0];exact DivInv.start (n:=(trimz b).length) (by simp;omega) (by omega) (lb_snoc hob (by omega)) (by rw [show (trimz a).length+2-(trimz b).length+(trimz b).length-1=_ from (show _=(_:List Nat).length by rw [hol];omega)];exact snoc_last0 _) hvP),rfl⟩
 clear hF fa;intro n0_ fa w' hI
 clear hS
 obtain ⟨U,Q,j,hF,hS,E111,hj,hUl,hbU,hQl,hbQ,hI,rfl⟩:=hI
 rename World=>w110
 refine c_seq ?_
 refine c_seq ?_
 refine c_reg ?_
 refine pr hF (pm rfl <| pg (λ_ hF=>ex_geq (hF.ev rfl) (hF.ev rfl)) <| PR.nil) ?_
 clear hF fa;intro fa hF
 refine c_nil_then ?_
 refine c_cond hF rfl (λhc112=>?_) (λhc112=>?_)
 ·
  have hc112p:(((j:Nat):Int)-1)≥0:=by first|simpa using hc112|exact bang_t hc112|exact bang_f hc112
  refine c_skip ?_
  refine x_tn ?_
  refine c_seq ?_
  refine c_block ?_
  refine c_seq ?_
  have hdw:=hI.win (n:=(trimz b).length) (by omega) (by omega) hvb hbU hvn
  have htl:=top_lt hdw hn2 hvn hvb
  have hua:=hbU.getD (j-1+(trimz b).length);have hub:=hbU.getD (j-1+(trimz b).length-1);have huc:=hbU.getD (j-1+(trimz b).length-2)
  have hva1:=hvL ((trimz b).length-1);have hva2:=hvL ((trimz b).length-2)
  refine drawn2 (N:=179) (L0:=[(0,(.slice (A4) ((trimz a).length) (c5))),(1,(.slice (A10) ((trimz b).length) (c11))),(4,(.slice (none) (0) (0))),(5,(.slice (none) (0) (0))),(23,(.bool (decide ((((trimz b).length:Nat):Int)=1)))),(34,(.bool (decide ((cmpN (val ((trimz a))) (val ((trimz b))))<0)))),(6,(.int .i64 ((((trimz b).length:Nat):Int)))),(7,(.int .u32 (((sc:Nat):Int)))),(8,(.slice (some ⟨g75,0,none⟩) ((trimz a).length+2) (c76))),(9,(.slice (A103) ((trimz o_91).length) (c104))),(10,(.slice (some ⟨g106,0,none⟩) (((trimz a).length+2)-((trimz b).length)) (((trimz a).length+2)-((trimz b).length)))),(11,(.int .i64 (((j:Nat):Int)-1))),(70,(.bool (decide ((((j:Nat):Int)-1)≥0))))]) [some (.slice (some ⟨g75,0,none⟩) ((trimz a).length+2) (c76)),some (.int .i64 (((j:Nat):Int)-1)),some (.int .i64 ((((trimz b).length:Nat):Int))),some (.int .i64 ((((j:Nat):Int)-1)+(((trimz b).length:Nat):Int))),some (.pointer (some ⟨g75,j-1+(trimz b).length,none⟩)),some (.int .u32 (((U.getD (j-1+(trimz b).length) 0:Nat):Int))),some (.int .u64 (((U.getD (j-1+(trimz b).length) 0:Nat):Int))),some (.int .u64 (((U.getD (j-1+(trimz b).length) 0:Nat):Int)*1000000000)),some (.slice (some ⟨g75,0,none⟩) ((trimz a).length+2) (c76)),some (.int .i64 (((j:Nat):Int)-1)),some (.int .i64 ((((trimz b).length:Nat):Int))),some (.int .i64 ((((j:Nat):Int)-1)+(((trimz b).length:Nat):Int))),some (.int .i64 (((((j:Nat):Int)-1)+(((trimz b).length:Nat):Int))-1)),some (.pointer (some ⟨g75,j-1+(trimz b).length-1,none⟩)),some (.int .u32 (((U.getD (j-1+(trimz b).length-1) 0:Nat):Int))),some (.int .u64 (((U.getD (j-1+(trimz b).length-1) 0:Nat):Int))),some (.int .u64 ((((U.getD (j-1+(trimz b).length) 0:Nat):Int)*1000000000)+((U.getD (j-1+(trimz b).length-1) 0:Nat):Int))),some (.int .u64 ((((U.getD (j-1+(trimz b).length) 0:Nat):Int)*1000000000)+((U.getD (j-1+(trimz b).length-1) 0:Nat):Int)))] [] [[]] [[0],[0],[0],[0],[0],[0],[0],[0],[0],[0],[0],[0],[0],[0],[0],[0],[0],[0]] 0 [
   λfa w'=>Frm 179 fa []∧St w w' [(g106,158,(us (Q)).toArray),(g75,158,(us (U)++R77).toArray)]∧Ext w110 (g106 :: (g75 :: X)) w' (g106 :: (g75 :: X))
   ] TfR.mixed rfl rfl rfl rfl rfl rfl (hF.all ⟨rfl,rfl,rfl,rfl,rfl,rfl,rfl,rfl,rfl,rfl,rfl,rfl,rfl,trivial⟩) rfl ⟨hF.nil,hS.drew,Ext.drew _ _⟩ ?_ ?_ ?_
  all_goals clear hF fa
  ·
   refine ⟨?_,trivial⟩
   ·
    rintro fa w' i o d v ho hd hna ⟨hA,hR⟩;exact ⟨hA.put_other v (freeOf_at (acts:=[]) rfl ho hd hna),hR⟩
  ·
   refine ⟨?_, ?_, ?_, ?_, ?_, ?_, ?_, ?_, ?_, ?_, ?_, ?_, ?_, ?_, ?_, ?_, ?_, ?_,trivial⟩
   ·
    refine .inl ⟨rfl,_,_,rfl,rfl,λs fa w' hΦ hF hB K hK=>?_⟩
    exact fl_val rfl rfl rfl (ex_move (hF.ev rfl)) hK
   ·
    refine .inl ⟨rfl,_,_,rfl,rfl,λs fa w' hΦ hF hB K hK=>?_⟩
    exact fl_val rfl rfl rfl (ex_move (hF.ev rfl)) hK
   ·
    refine .inl ⟨rfl,_,_,rfl,rfl,λs fa w' hΦ hF hB K hK=>?_⟩
    exact fl_val rfl rfl rfl (ex_move (hF.ev rfl)) hK
   ·
    refine .inl ⟨rfl,_,_,rfl,rfl,λs fa w' hΦ hF hB K hK=>?_⟩
    replace hF:=hF.cons (hB.val 1 _ 74 _ rfl rfl rfl rfl)
    replace hF:=hF.cons (hB.val 2 _ 75 _ rfl rfl rfl rfl)
    exact fl_val rfl rfl rfl (ex_add (hF.ev rfl) (hF.ev rfl) vi64) hK
   ·
    refine .inl ⟨rfl,_,_,rfl,rfl,λs fa w' hΦ hF hB K hK=>?_⟩
    replace hF:=hF.cons (hB.val 0 _ 73 _ rfl rfl rfl rfl)
    replace hF:=hF.cons (hB.val 3 _ 76 _ rfl rfl rfl rfl)
    exact fl_val rfl rfl rfl (ex_idxo (j:=j-1+(trimz b).length) TfR.sl28 (hF.ev rfl) (hF.ev rfl) (by omega) (by omega)) hK
   ·
    refine .inr (.inl ⟨rfl,_,_,rfl,rfl, ?_,trivial⟩)
    ·
     intro fa w' hΦ hF hB K hK
     obtain ⟨hA,hS,E_w'⟩:=hΦ
     replace hF:=hF.cons (hB.val 4 _ 77 _ rfl rfl rfl rfl)
     exact fl_val rfl rfl rfl (ex_load1b TfR.one158 (hF.ev rfl) (hS.get 1 rfl) (us_arr2 (by first|omega|(simp;omega)))) hK
   ·
    refine .inl ⟨rfl,_,_,rfl,rfl,λs fa w' hΦ hF hB K hK=>?_⟩
    replace hF:=hF.cons (hB.val 5 _ 78 _ rfl rfl rfl rfl)
    exact fl_val rfl rfl rfl (ex_conv TfR.unds158 TfR.und134 (hF.ev rfl) (wu64n (by omega))) hK
   ·
    refine .inl ⟨rfl,_,_,rfl,rfl,λs fa w' hΦ hF hB K hK=>?_⟩
    replace hF:=hF.cons (hB.val 6 _ 79 _ rfl rfl rfl rfl)
    exact fl_val rfl rfl rfl (ex_mul (hF.ev rfl) (hF.ev rfl) vu64) hK
   ·
    refine .inl ⟨rfl,_,_,rfl,rfl,λs fa w' hΦ hF hB K hK=>?_⟩
    exact fl_val rfl rfl rfl (ex_move (hF.ev rfl)) hK
   ·
    refine .inl ⟨rfl,_,_,rfl,rfl,λs fa w' hΦ hF hB K hK=>?_⟩
    exact fl_val rfl rfl rfl (ex_move (hF.ev rfl)) hK
   ·
    refine .inl ⟨rfl,_,_,rfl,rfl,λs fa w' hΦ hF hB K hK=>?_⟩
    exact fl_val rfl rfl rfl (ex_move (hF.ev rfl)) hK
   ·
    refine .inl ⟨rfl,_,_,rfl,rfl,λs fa w' hΦ hF hB K hK=>?_⟩
    replace hF:=hF.cons (hB.val 9 _ 82 _ rfl rfl rfl rfl)
    replace hF:=hF.cons (hB.val 10 _ 83 _ rfl rfl rfl rfl)
    exact fl_val rfl rfl rfl (ex_add (hF.ev rfl) (hF.ev rfl) vi64) hK
   ·
    refine .inl ⟨rfl,_,_,rfl,rfl,λs fa w' hΦ hF hB K hK=>?_⟩
    replace hF:=hF.cons (hB.val 11 _ 84 _ rfl rfl rfl rfl)
    exact fl_val rfl rfl rfl (ex_sub (hF.ev rfl) (hF.ev rfl) vi64) hK
   ·
    refine .inl ⟨rfl,_,_,rfl,rfl,λs fa w' hΦ hF hB K hK=>?_⟩
    replace hF:=hF.cons (hB.val 8 _ 81 _ rfl rfl rfl rfl)
    replace hF:=hF.cons (hB.val 12 _ 85 _ rfl rfl rfl rfl)
    exact fl_val rfl rfl rfl (ex_idxo (j:=j-1+(trimz b).length-1) TfR.sl28 (hF.ev rfl) (hF.ev rfl) (by omega) (by omega)) hK
   ·
    refine .inr (.inl ⟨rfl,_,_,rfl,rfl, ?_,trivial⟩)
    ·
     intro fa w' hΦ hF hB K hK
     obtain ⟨hA,hS,E_w'⟩:=hΦ
     replace hF:=hF.cons (hB.val 13 _ 86 _ rfl rfl rfl rfl)
     exact fl_val rfl rfl rfl (ex_load1b TfR.one158 (hF.ev rfl) (hS.get 1 rfl) (us_arr2 (by first|omega|(simp;omega)))) hK
   ·
    refine .inl ⟨rfl,_,_,rfl,rfl,λs fa w' hΦ hF hB K hK=>?_⟩
    replace hF:=hF.cons (hB.val 14 _ 87 _ rfl rfl rfl rfl)
    exact fl_val rfl rfl rfl (ex_conv TfR.unds158 TfR.und134 (hF.ev rfl) (wu64n (by omega))) hK
   ·
    refine .inl ⟨rfl,_,_,rfl,rfl,λs fa w' hΦ hF hB K hK=>?_⟩
    replace hF:=hF.cons (hB.val 7 _ 80 _ rfl rfl rfl rfl)
    replace hF:=hF.cons (hB.val 15 _ 88 _ rfl rfl rfl rfl)
    exact fl_val rfl rfl rfl (ex_add (hF.ev rfl) (hF.ev rfl) vu64) hK
   ·
    refine .inl ⟨rfl,_,_,rfl,rfl,λs fa w' hΦ hF hB K hK=>?_⟩
    replace hF:=hF.cons (hB.val 16 _ 89 _ rfl rfl rfl rfl)
    exact fl_val rfl rfl rfl (ex_assign (hF.ev rfl)) hK
  intro fa w113 hΦ hF hC
  obtain ⟨hA,hS,E_w113⟩:=hΦ
  replace hF:=hF.cons (hC 17 _ 12 _ rfl rfl rfl)
  clear hA hC
  refine x_tn ?_
  refine c_seq ?_
  obtain ⟨ad_94,hA_94,hq_94⟩:=(hu105.ext ((E108.trans E111).trans E_w113)).cl.at2 (us_get (l:=(trimz o_91)) (i:=(trimz b).length-1) (by omega))
  obtain ⟨ad_102,hA_102,hq_102⟩:=(hu105.ext ((E108.trans E111).trans E_w113)).cl.at2 (us_get (l:=(trimz o_91)) (i:=(trimz b).length-1) (by omega))
  refine drawn2 (N:=179) (L0:=[(0,(.slice (A4) ((trimz a).length) (c5))),(1,(.slice (A10) ((trimz b).length) (c11))),(4,(.slice (none) (0) (0))),(5,(.slice (none) (0) (0))),(23,(.bool (decide ((((trimz b).length:Nat):Int)=1)))),(34,(.bool (decide ((cmpN (val ((trimz a))) (val ((trimz b))))<0)))),(6,(.int .i64 ((((trimz b).length:Nat):Int)))),(7,(.int .u32 (((sc:Nat):Int)))),(8,(.slice (some ⟨g75,0,none⟩) ((trimz a).length+2) (c76))),(9,(.slice (A103) ((trimz o_91).length) (c104))),(10,(.slice (some ⟨g106,0,none⟩) (((trimz a).length+2)-((trimz b).length)) (((trimz a).length+2)-((trimz b).length)))),(11,(.int .i64 (((j:Nat):Int)-1))),(70,(.bool (decide ((((j:Nat):Int)-1)≥0)))),(12,(.int .u64 ((((U.getD (j-1+(trimz b).length) 0:Nat):Int)*1000000000)+((U.getD (j-1+(trimz b).length-1) 0:Nat):Int))))]) [some (.int .u64 ((((U.getD (j-1+(trimz b).length) 0:Nat):Int)*1000000000)+((U.getD (j-1+(trimz b).length-1) 0:Nat):Int))),some (.slice (A103) ((trimz o_91).length) (c104)),some (.int .i64 ((((trimz b).length:Nat):Int))),some (.int .i64 ((((trimz b).length:Nat):Int)-1)),some (.pointer (some (ad_94.add ((trimz b).length-1)))),some (.int .u32 ((((trimz o_91).getD ((trimz b).length-1) 0:Nat):Int))),some (.int .u64 ((((trimz o_91).getD ((trimz b).length-1) 0:Nat):Int))),some (.int .u64 ((((((U.getD (j-1+(trimz b).length) 0)*1000000000)+(U.getD (j-1+(trimz b).length-1) 0)) / ((trimz o_91).getD ((trimz b).length-1) 0):Nat):Int))),some (.int .u64 ((((U.getD (j-1+(trimz b).length) 0:Nat):Int)*1000000000)+((U.getD (j-1+(trimz b).length-1) 0:Nat):Int))),some (.slice (A103) ((trimz o_91).length) (c104)),some (.int .i64 ((((trimz b).length:Nat):Int))),some (.int .i64 ((((trimz b).length:Nat):Int)-1)),some (.pointer (some (ad_102.add ((trimz b).length-1)))),some (.int .u32 ((((trimz o_91).getD ((trimz b).length-1) 0:Nat):Int))),some (.int .u64 ((((trimz o_91).getD ((trimz b).length-1) 0:Nat):Int))),some (.int .u64 ((((((U.getD (j-1+(trimz b).length) 0)*1000000000)+(U.getD (j-1+(trimz b).length-1) 0)) % ((trimz o_91).getD ((trimz b).length-1) 0):Nat):Int))),some (.int .u64 ((((((U.getD (j-1+(trimz b).length) 0)*1000000000)+(U.getD (j-1+(trimz b).length-1) 0)) / ((trimz o_91).getD ((trimz b).length-1) 0):Nat):Int))),some (.int .u64 ((((((U.getD (j-1+(trimz b).length) 0)*1000000000)+(U.getD (j-1+(trimz b).length-1) 0)) % ((trimz o_91).getD ((trimz b).length-1) 0):Nat):Int)))] [] [[]] [[0],[0],[0],[0],[0],[0],[0],[0],[0],[0],[0],[0],[0],[0],[0],[0],[0],[0]] 0 [
   λfa w'=>Frm 179 fa []∧St w w' [(g106,158,(us (Q)).toArray),(g75,158,(us (U)++R77).toArray)]∧Ext w113 (g106 :: (g75 :: X)) w' (g106 :: (g75 :: X))
   ] TfR.mixed rfl rfl rfl rfl rfl rfl (hF.all ⟨rfl,rfl,rfl,rfl,rfl,rfl,rfl,rfl,rfl,rfl,rfl,rfl,rfl,rfl,trivial⟩) rfl ⟨hF.nil,hS.drew,Ext.drew _ _⟩ ?_ ?_ ?_
  all_goals clear hF fa
  ·
   refine ⟨?_,trivial⟩
   ·
    rintro fa w' i o d v ho hd hna ⟨hA,hR⟩;exact ⟨hA.put_other v (freeOf_at (acts:=[]) rfl ho hd hna),hR⟩
  ·
   refine ⟨?_, ?_, ?_, ?_, ?_, ?_, ?_, ?_, ?_, ?_, ?_, ?_, ?_, ?_, ?_, ?_, ?_, ?_,trivial⟩
   ·
    refine .inl ⟨rfl,_,_,rfl,rfl,λs fa w' hΦ hF hB K hK=>?_⟩
    exact fl_val rfl rfl rfl (ex_move (hF.ev rfl)) hK
   ·
    refine .inl ⟨rfl,_,_,rfl,rfl,λs fa w' hΦ hF hB K hK=>?_⟩
    exact fl_val rfl rfl rfl (ex_move (hF.ev rfl)) hK
   ·
    refine .inl ⟨rfl,_,_,rfl,rfl,λs fa w' hΦ hF hB K hK=>?_⟩
    exact fl_val rfl rfl rfl (ex_move (hF.ev rfl)) hK
   ·
    refine .inl ⟨rfl,_,_,rfl,rfl,λs fa w' hΦ hF hB K hK=>?_⟩
    replace hF:=hF.cons (hB.val 2 _ 92 _ rfl rfl rfl rfl)
    exact fl_val rfl rfl rfl (ex_sub (hF.ev rfl) (hF.ev rfl) vi64) hK
   ·
    refine .inl ⟨rfl,_,_,rfl,rfl,λs fa w' hΦ hF hB K hK=>?_⟩
    replace hF:=hF.cons (hB.val 1 _ 91 _ rfl rfl rfl rfl)
    replace hF:=hF.cons (hB.val 3 _ 93 _ rfl rfl rfl rfl)
    exact fl_val rfl rfl rfl (ex_idx (j:=(trimz b).length-1) TfR.sl28 (hF.ev rfl) hA_94 (hF.ev rfl) (by omega) (by omega)) hK
   ·
    refine .inr (.inl ⟨rfl,_,_,rfl,rfl, ?_,trivial⟩)
    ·
     intro fa w' hΦ hF hB K hK
     obtain ⟨hA,hS,E_w'⟩:=hΦ
     replace hF:=hF.cons (hB.val 4 _ 94 _ rfl rfl rfl rfl)
     exact fl_val rfl rfl rfl (ex_load1 TfR.one158 (hF.ev rfl) (hq_94 E_w')) hK
   ·
    refine .inl ⟨rfl,_,_,rfl,rfl,λs fa w' hΦ hF hB K hK=>?_⟩
    replace hF:=hF.cons (hB.val 5 _ 95 _ rfl rfl rfl rfl)
    exact fl_val rfl rfl rfl (ex_conv TfR.unds158 TfR.und134 (hF.ev rfl) (wu64n (by omega))) hK
   ·
    refine .inl ⟨rfl,_,_,rfl,rfl,λs fa w' hΦ hF hB K hK=>?_⟩
    replace hF:=hF.cons (hB.val 0 _ 90 _ rfl rfl rfl rfl)
    replace hF:=hF.cons (hB.val 6 _ 96 _ rfl rfl rfl rfl)
    exact fl_val rfl rfl rfl (ex_quo (hF.ev rfl) (hF.ev rfl) (by omega) (q_u64 (x:=((U.getD (j-1+(trimz b).length) 0)*1000000000)+(U.getD (j-1+(trimz b).length-1) 0)) (y:=(trimz o_91).getD ((trimz b).length-1) 0) (by omega) (by omega) (by omega))) hK
   ·
    refine .inl ⟨rfl,_,_,rfl,rfl,λs fa w' hΦ hF hB K hK=>?_⟩
    exact fl_val rfl rfl rfl (ex_move (hF.ev rfl)) hK
   ·
    refine .inl ⟨rfl,_,_,rfl,rfl,λs fa w' hΦ hF hB K hK=>?_⟩
    exact fl_val rfl rfl rfl (ex_move (hF.ev rfl)) hK
   ·
    refine .inl ⟨rfl,_,_,rfl,rfl,λs fa w' hΦ hF hB K hK=>?_⟩
    exact fl_val rfl rfl rfl (ex_move (hF.ev rfl)) hK
   ·
    refine .inl ⟨rfl,_,_,rfl,rfl,λs fa w' hΦ hF hB K hK=>?_⟩
    replace hF:=hF.cons (hB.val 10 _ 100 _ rfl rfl rfl rfl)
    exact fl_val rfl rfl rfl (ex_sub (hF.ev rfl) (hF.ev rfl) vi64) hK
   ·
    refine .inl ⟨rfl,_,_,rfl,rfl,λs fa w' hΦ hF hB K hK=>?_⟩
    replace hF:=hF.cons (hB.val 9 _ 99 _ rfl rfl rfl rfl)
    replace hF:=hF.cons (hB.val 11 _ 101 _ rfl rfl rfl rfl)
    exact fl_val rfl rfl rfl (ex_idx (j:=(trimz b).length-1) TfR.sl28 (hF.ev rfl) hA_102 (hF.ev rfl) (by omega) (by omega)) hK
   ·
    refine .inr (.inl ⟨rfl,_,_,rfl,rfl, ?_,trivial⟩)
    ·
     intro fa w' hΦ hF hB K hK
     obtain ⟨hA,hS,E_w'⟩:=hΦ
     replace hF:=hF.cons (hB.val 12 _ 102 _ rfl rfl rfl rfl)
     exact fl_val rfl rfl rfl (ex_load1 TfR.one158 (hF.ev rfl) (hq_102 E_w')) hK
   ·
    refine .inl ⟨rfl,_,_,rfl,rfl,λs fa w' hΦ hF hB K hK=>?_⟩
    replace hF:=hF.cons (hB.val 13 _ 103 _ rfl rfl rfl rfl)
    exact fl_val rfl rfl rfl (ex_conv TfR.unds158 TfR.und134 (hF.ev rfl) (wu64n (by omega))) hK
   ·
    refine .inl ⟨rfl,_,_,rfl,rfl,λs fa w' hΦ hF hB K hK=>?_⟩
    replace hF:=hF.cons (hB.val 8 _ 98 _ rfl rfl rfl rfl)
    replace hF:=hF.cons (hB.val 14 _ 104 _ rfl rfl rfl rfl)
    exact fl_val rfl rfl rfl (ex_rem (hF.ev rfl) (hF.ev rfl) (by omega) (r_any (x:=((U.getD (j-1+(trimz b).length) 0)*1000000000)+(U.getD (j-1+(trimz b).length-1) 0)) (y:=(trimz o_91).getD ((trimz b).length-1) 0) (by omega) (by omega))) hK
   ·
    refine .inl ⟨rfl,_,_,rfl,rfl,λs fa w' hΦ hF hB K hK=>?_⟩
    replace hF:=hF.cons (hB.val 7 _ 97 _ rfl rfl rfl rfl)
    exact fl_val rfl rfl rfl (ex_assign (hF.ev rfl)) hK
   ·
    refine .inl ⟨rfl,_,_,rfl,rfl,λs fa w' hΦ hF hB K hK=>?_⟩
    replace hF:=hF.cons (hB.val 15 _ 105 _ rfl rfl rfl rfl)
    exact fl_val rfl rfl rfl (ex_assign (hF.ev rfl)) hK
  intro fa w114 hΦ hF hC
  obtain ⟨hA,hS,E_w114⟩:=hΦ
  replace hF:=hF.cons (hC 16 _ 13 _ rfl rfl rfl)
  replace hF:=hF.cons (hC 17 _ 14 _ rfl rfl rfl)
  clear hA hC
  refine x_tn ?_
  refine c_cut (λfa w'=>∃gs:Nat,Frm 179 fa [(0,(.slice (A4) ((trimz a).length) (c5))),(1,(.slice (A10) ((trimz b).length) (c11))),(4,(.slice (none) (0) (0))),(5,(.slice (none) (0) (0))),(23,(.bool (decide ((((trimz b).length:Nat):Int)=1)))),(34,(.bool (decide ((cmpN (val ((trimz a))) (val ((trimz b))))<0)))),(6,(.int .i64 ((((trimz b).length:Nat):Int)))),(7,(.int .u32 (((sc:Nat):Int)))),(8,(.slice (some ⟨g75,0,none⟩) ((trimz a).length+2) (c76))),(9,(.slice (A103) ((trimz o_91).length) (c104))),(10,(.slice (some ⟨g106,0,none⟩) (((trimz a).length+2)-((trimz b).length)) (((trimz a).length+2)-((trimz b).length)))),(11,(.int .i64 (((j:Nat):Int)-1))),(70,(.bool (decide ((((j:Nat):Int)-1)≥0)))),(12,(.int .u64 ((((U.getD (j-1+(trimz b).length) 0:Nat):Int)*1000000000)+((U.getD (j-1+(trimz b).length-1) 0:Nat):Int)))),(13,(.int .u64 (((gs:Nat):Int))))]∧St w w' [(g106,158,(us (Q)).toArray),(g75,158,(us (U)++R77).toArray)]∧Ext w114 (g106 :: (g75 :: X)) w' (g106 :: (g75 :: X))∧(gs<1000000000)∧(gs*val (trimz o_91)≤val (win U (j-1) ((trimz b).length+1))+val (trimz o_91))∧(val (win U (j-1) ((trimz b).length+1))<(gs+1)*val (trimz o_91))) ?_ ?_
  ·
   refine c_block ?_
   refine c_loop (λmu fa w'=>∃g:Nat,∃r:Nat,Frm 179 fa [(0,(.slice (A4) ((trimz a).length) (c5))),(1,(.slice (A10) ((trimz b).length) (c11))),(4,(.slice (none) (0) (0))),(5,(.slice (none) (0) (0))),(23,(.bool (decide ((((trimz b).length:Nat):Int)=1)))),(34,(.bool (decide ((cmpN (val ((trimz a))) (val ((trimz b))))<0)))),(6,(.int .i64 ((((trimz b).length:Nat):Int)))),(7,(.int .u32 (((sc:Nat):Int)))),(8,(.slice (some ⟨g75,0,none⟩) ((trimz a).length+2) (c76))),(9,(.slice (A103) ((trimz o_91).length) (c104))),(10,(.slice (some ⟨g106,0,none⟩) (((trimz a).length+2)-((trimz b).length)) (((trimz a).length+2)-((trimz b).length)))),(11,(.int .i64 (((j:Nat):Int)-1))),(70,(.bool (decide ((((j:Nat):Int)-1)≥0)))),(12,(.int .u64 ((((U.getD (j-1+(trimz b).length) 0:Nat):Int)*1000000000)+((U.getD (j-1+(trimz b).length-1) 0:Nat):Int)))),(13,(.int .u64 (((g:Nat):Int)))),(14,(.int .u64 (((r:Nat):Int))))]∧St w w' [(g106,158,(us (Q)).toArray),(g75,158,(us (U)++R77).toArray)]∧Ext w114 (g106 :: (g75 :: X)) w' (g106 :: (g75 :: X))∧(g*(trimz o_91).getD ((trimz b).length-1) 0+r=U.getD (j-1+(trimz b).length) 0*1000000000+U.getD (j-1+(trimz b).length-1) 0)∧(r<1000000000)∧(g≤1000000001)∧(val (win U (j-1) ((trimz b).length+1))<(g+1)*val (trimz o_91))∧g=mu) ?_ ?_
   ·
    exact ⟨_,(((U.getD (j-1+(trimz b).length) 0)*1000000000)+(U.getD (j-1+(trimz b).length-1) 0)) / ((trimz o_91).getD ((trimz b).length-1) 0),(((U.getD (j-1+(trimz b).length) 0)*1000000000)+(U.getD (j-1+(trimz b).length-1) 0)) % ((trimz o_91).getD ((trimz b).length-1) 0),(hF.all ⟨rfl,rfl,rfl,rfl,rfl,rfl,rfl,rfl,rfl,rfl,rfl,rfl,rfl,rfl,(lk_int rfl (by omega)),(lk_int rfl (by omega)),trivial⟩),hS,Ext.refl _ _,(by rw [Nat.mul_comm];exact Nat.div_add_mod _ _),(Nat.lt_of_lt_of_le (Nat.mod_lt _ (by omega)) (by omega)),((gs_init hdw hn2 hvn hvb hbU hvtop rfl).2),((gs_init hdw hn2 hvn hvb hbU hvtop rfl).1),rfl⟩
   clear hF fa;intro n1_ fa w' hI
   clear hS
   obtain ⟨g,r,hF,hS,E118,hgr,hrb,hgb,hgw,rfl⟩:=hI
   rename World=>w117
   have hgm:g*(trimz o_91).getD ((trimz b).length-2) 0≤1000000001*999999999:=Nat.mul_le_mul hgb (by have:=hvL ((trimz b).length-2);omega)
   refine c_seq ?_
   refine c_seq ?_
   rcases Bool.eq_false_or_eq_true (decide (((g:Nat):Int)≥1000000000)) with hk119|hk119
   ·
    have hk119p:=hk119;simp at hk119p
    have hgB:=of_decide_eq_true hk119
    have hgp:0<g:=by omega
    have hw1:=gs_big (g:=g) hdw (by omega)
    refine drawn2 (N:=179) (L0:=[(0,(.slice (A4) ((trimz a).length) (c5))),(1,(.slice (A10) ((trimz b).length) (c11))),(4,(.slice (none) (0) (0))),(5,(.slice (none) (0) (0))),(23,(.bool (decide ((((trimz b).length:Nat):Int)=1)))),(34,(.bool (decide ((cmpN (val ((trimz a))) (val ((trimz b))))<0)))),(6,(.int .i64 ((((trimz b).length:Nat):Int)))),(7,(.int .u32 (((sc:Nat):Int)))),(8,(.slice (some ⟨g75,0,none⟩) ((trimz a).length+2) (c76))),(9,(.slice (A103) ((trimz o_91).length) (c104))),(10,(.slice (some ⟨g106,0,none⟩) (((trimz a).length+2)-((trimz b).length)) (((trimz a).length+2)-((trimz b).length)))),(11,(.int .i64 (((j:Nat):Int)-1))),(70,(.bool (decide ((((j:Nat):Int)-1)≥0)))),(12,(.int .u64 ((((U.getD (j-1+(trimz b).length) 0:Nat):Int)*1000000000)+((U.getD (j-1+(trimz b).length-1) 0:Nat):Int)))),(13,(.int .u64 (((g:Nat):Int)))),(14,(.int .u64 (((r:Nat):Int))))]) [some (.int .u64 (((g:Nat):Int))),some (.bool (true)),some (.bool (true)),some undef,some undef,some undef,some undef,some undef,some undef,some undef,some undef,some undef,some undef,some undef,some undef,some undef,some undef,some undef,some undef,some undef,some undef,some undef,some undef,some (.bool (true))] [] [[]] [[0],[0],[0],[0],[0],[0],[0],[0],[0],[0],[0],[0],[0],[0],[0],[0],[0],[0],[0],[0],[0],[0],[0],[0]] 0 [
     λfa w'=>Frm 179 fa []∧St w w' [(g106,158,(us (Q)).toArray),(g75,158,(us (U)++R77).toArray)]∧Ext w117 (g106 :: (g75 :: X)) w' (g106 :: (g75 :: X))
     ] TfR.mixed rfl rfl rfl rfl rfl rfl (hF.all ⟨rfl,rfl,rfl,rfl,rfl,rfl,rfl,rfl,rfl,rfl,rfl,rfl,rfl,rfl,rfl,rfl,trivial⟩) rfl ⟨hF.nil,hS.drew,Ext.drew _ _⟩ ?_ ?_ ?_
    all_goals clear hF fa
    ·
     refine ⟨?_,trivial⟩
     ·
      rintro fa w' i o d v ho hd hna ⟨hA,hR⟩;exact ⟨hA.put_other v (freeOf_at (acts:=[]) rfl ho hd hna),hR⟩
    ·
     refine ⟨?_, ?_, ?_, ?_, ?_, ?_, ?_, ?_, ?_, ?_, ?_, ?_, ?_, ?_, ?_, ?_, ?_, ?_, ?_, ?_, ?_, ?_, ?_, ?_,trivial⟩
     ·
      refine .inl ⟨rfl,_,_,rfl,rfl,λs fa w' hΦ hF hB K hK=>?_⟩
      exact fl_val rfl rfl rfl (ex_move (hF.ev rfl)) hK
     ·
      refine .inl ⟨rfl,_,_,rfl,rfl,λs fa w' hΦ hF hB K hK=>?_⟩
      replace hF:=hF.cons (hB.val 0 _ 106 _ rfl rfl rfl rfl)
      exact fl_val rfl rfl rfl (ex_b hk119 (ex_geq (hF.ev rfl) (hF.ev rfl))) hK
     ·
      refine .inl ⟨rfl,_,_,rfl,rfl,λs fa w' hΦ hF hB K hK=>?_⟩
      replace hF:=hF.cons (hB.val 1 _ 107 _ rfl rfl rfl rfl)
      exact fl_val rfl rfl rfl (ex_move (hF.ev rfl)) hK
     ·
      refine .inl ⟨rfl,_,_,rfl,rfl,λs fa w' hΦ hF hB K hK=>?_⟩
      replace hF:=hF.cons (hB.val 2 _ 108 _ rfl rfl rfl rfl)
      exact fl_skip hF rfl rfl rfl rfl rfl hK
     ·
      refine .inl ⟨rfl,_,_,rfl,rfl,λs fa w' hΦ hF hB K hK=>?_⟩
      replace hF:=hF.cons (hB.val 2 _ 108 _ rfl rfl rfl rfl)
      exact fl_skip hF rfl rfl rfl rfl rfl hK
     ·
      refine .inl ⟨rfl,_,_,rfl,rfl,λs fa w' hΦ hF hB K hK=>?_⟩
      replace hF:=hF.cons (hB.val 2 _ 108 _ rfl rfl rfl rfl)
      exact fl_skip hF rfl rfl rfl rfl rfl hK
     ·
      refine .inl ⟨rfl,_,_,rfl,rfl,λs fa w' hΦ hF hB K hK=>?_⟩
      replace hF:=hF.cons (hB.val 5 _ 111 _ rfl rfl rfl rfl)
      replace hF:=hF.cons (hB.val 2 _ 108 _ rfl rfl rfl rfl)
      exact fl_skip hF rfl rfl rfl rfl rfl hK
     ·
      refine .inl ⟨rfl,_,_,rfl,rfl,λs fa w' hΦ hF hB K hK=>?_⟩
      replace hF:=hF.cons (hB.val 4 _ 110 _ rfl rfl rfl rfl)
      replace hF:=hF.cons (hB.val 6 _ 112 _ rfl rfl rfl rfl)
      replace hF:=hF.cons (hB.val 2 _ 108 _ rfl rfl rfl rfl)
      exact fl_skip hF rfl rfl rfl rfl rfl hK
     ·
      refine .inl ⟨rfl,_,_,rfl,rfl,λs fa w' hΦ hF hB K hK=>?_⟩
      replace hF:=hF.cons (hB.val 7 _ 113 _ rfl rfl rfl rfl)
      replace hF:=hF.cons (hB.val 2 _ 108 _ rfl rfl rfl rfl)
      exact fl_skip hF rfl rfl rfl rfl rfl hK
     ·
      refine .inl ⟨rfl,_,_,rfl,rfl,λs fa w' hΦ hF hB K hK=>?_⟩
      replace hF:=hF.cons (hB.val 8 _ 114 _ rfl rfl rfl rfl)
      replace hF:=hF.cons (hB.val 2 _ 108 _ rfl rfl rfl rfl)
      exact fl_skip hF rfl rfl rfl rfl rfl hK
     ·
      refine .inl ⟨rfl,_,_,rfl,rfl,λs fa w' hΦ hF hB K hK=>?_⟩
      replace hF:=hF.cons (hB.val 3 _ 109 _ rfl rfl rfl rfl)
      replace hF:=hF.cons (hB.val 9 _ 115 _ rfl rfl rfl rfl)
      replace hF:=hF.cons (hB.val 2 _ 108 _ rfl rfl rfl rfl)
      exact fl_skip hF rfl rfl rfl rfl rfl hK
     ·
      refine .inl ⟨rfl,_,_,rfl,rfl,λs fa w' hΦ hF hB K hK=>?_⟩
      replace hF:=hF.cons (hB.val 2 _ 108 _ rfl rfl rfl rfl)
      exact fl_skip hF rfl rfl rfl rfl rfl hK
     ·
      refine .inl ⟨rfl,_,_,rfl,rfl,λs fa w' hΦ hF hB K hK=>?_⟩
      replace hF:=hF.cons (hB.val 11 _ 117 _ rfl rfl rfl rfl)
      replace hF:=hF.cons (hB.val 2 _ 108 _ rfl rfl rfl rfl)
      exact fl_skip hF rfl rfl rfl rfl rfl hK
     ·
      refine .inl ⟨rfl,_,_,rfl,rfl,λs fa w' hΦ hF hB K hK=>?_⟩
      replace hF:=hF.cons (hB.val 2 _ 108 _ rfl rfl rfl rfl)
      exact fl_skip hF rfl rfl rfl rfl rfl hK
     ·
      refine .inl ⟨rfl,_,_,rfl,rfl,λs fa w' hΦ hF hB K hK=>?_⟩
      replace hF:=hF.cons (hB.val 2 _ 108 _ rfl rfl rfl rfl)
      exact fl_skip hF rfl rfl rfl rfl rfl hK
     ·
      refine .inl ⟨rfl,_,_,rfl,rfl,λs fa w' hΦ hF hB K hK=>?_⟩
      replace hF:=hF.cons (hB.val 2 _ 108 _ rfl rfl rfl rfl)
      exact fl_skip hF rfl rfl rfl rfl rfl hK
     ·
      refine .inl ⟨rfl,_,_,rfl,rfl,λs fa w' hΦ hF hB K hK=>?_⟩
      replace hF:=hF.cons (hB.val 14 _ 120 _ rfl rfl rfl rfl)
      replace hF:=hF.cons (hB.val 15 _ 121 _ rfl rfl rfl rfl)
      replace hF:=hF.cons (hB.val 2 _ 108 _ rfl rfl rfl rfl)
      exact fl_skip hF rfl rfl rfl rfl rfl hK
     ·
      refine .inl ⟨rfl,_,_,rfl,rfl,λs fa w' hΦ hF hB K hK=>?_⟩
      replace hF:=hF.cons (hB.val 16 _ 122 _ rfl rfl rfl rfl)
      replace hF:=hF.cons (hB.val 2 _ 108 _ rfl rfl rfl rfl)
      exact fl_skip hF rfl rfl rfl rfl rfl hK
     ·
      refine .inl ⟨rfl,_,_,rfl,rfl,λs fa w' hΦ hF hB K hK=>?_⟩
      replace hF:=hF.cons (hB.val 13 _ 119 _ rfl rfl rfl rfl)
      replace hF:=hF.cons (hB.val 17 _ 123 _ rfl rfl rfl rfl)
      replace hF:=hF.cons (hB.val 2 _ 108 _ rfl rfl rfl rfl)
      exact fl_skip hF rfl rfl rfl rfl rfl hK
     ·
      refine .inl ⟨rfl,_,_,rfl,rfl,λs fa w' hΦ hF hB K hK=>?_⟩
      replace hF:=hF.cons (hB.val 18 _ 124 _ rfl rfl rfl rfl)
      replace hF:=hF.cons (hB.val 2 _ 108 _ rfl rfl rfl rfl)
      exact fl_skip hF rfl rfl rfl rfl rfl hK
     ·
      refine .inl ⟨rfl,_,_,rfl,rfl,λs fa w' hΦ hF hB K hK=>?_⟩
      replace hF:=hF.cons (hB.val 19 _ 125 _ rfl rfl rfl rfl)
      replace hF:=hF.cons (hB.val 2 _ 108 _ rfl rfl rfl rfl)
      exact fl_skip hF rfl rfl rfl rfl rfl hK
     ·
      refine .inl ⟨rfl,_,_,rfl,rfl,λs fa w' hΦ hF hB K hK=>?_⟩
      replace hF:=hF.cons (hB.val 12 _ 118 _ rfl rfl rfl rfl)
      replace hF:=hF.cons (hB.val 20 _ 126 _ rfl rfl rfl rfl)
      replace hF:=hF.cons (hB.val 2 _ 108 _ rfl rfl rfl rfl)
      exact fl_skip hF rfl rfl rfl rfl rfl hK
     ·
      refine .inl ⟨rfl,_,_,rfl,rfl,λs fa w' hΦ hF hB K hK=>?_⟩
      replace hF:=hF.cons (hB.val 10 _ 116 _ rfl rfl rfl rfl)
      replace hF:=hF.cons (hB.val 21 _ 127 _ rfl rfl rfl rfl)
      replace hF:=hF.cons (hB.val 2 _ 108 _ rfl rfl rfl rfl)
      exact fl_skip hF rfl rfl rfl rfl rfl hK
     ·
      refine .inl ⟨rfl,_,_,rfl,rfl,λs fa w' hΦ hF hB K hK=>?_⟩
      replace hF:=hF.cons (hB.val 2 _ 108 _ rfl rfl rfl rfl)
      replace hF:=hF.cons (hB.val 22 _ 128 _ rfl rfl rfl rfl)
      exact fl_val rfl rfl rfl (ex_pick (hF.ev rfl) (λ_=>hF.ev rfl) (v:=undef) (λh=>by cases h) rfl) hK
    intro fa w120 hΦ hF hC
    obtain ⟨hA,hS,E_w120⟩:=hΦ
    replace hF:=hF.cons (hC 23 _ 129 _ rfl rfl rfl)
    clear hA hC
    refine x_tn ?_
    refine c_cond hF rfl (λhc=>?_) (λhc=>?_)
    rotate_left
    ·
     cases hc
    refine c_skip ?_
    refine x_tn ?_
    refine c_block ?_
    refine c_seq ?_
    refine c_reg ?_
    refine pr hF (pm rfl <| pg (λ_ hF=>ex_sub (hF.ev rfl) (hF.ev rfl) vu64) <| pa rfl <| PR.nil) ?_
    clear hF fa;intro fa hF
    refine c_nil_then ?_
    refine c_seq ?_
    refine c_reg ?_
    refine pr hF (pm rfl <| pm rfl <| pm rfl <| pg (λ_ hF=>ex_sub (hF.ev rfl) (hF.ev rfl) vi64) <| PR.nil) ?_
    clear hF fa;intro fa hF
    obtain ⟨ad121,hA122,hq123⟩:=(hu105.ext (((((E108.trans E111).trans E_w113).trans E_w114).trans E118).trans E_w120)).cl.at_ (us_get (l:=(trimz o_91)) (i:=(trimz b).length-1) (by omega))
    refine pr hF (pg (λ_ hF=>ex_idx (j:=(trimz b).length-1) TfR.sl28 (hF.ev rfl) hA122 (hF.ev rfl) (by omega) (by omega)) <| pg (λ_ hF=>ex_load1 TfR.one158 (hF.ev rfl) hq123) <| pg (λ_ hF=>ex_conv TfR.unds158 TfR.und134 (hF.ev rfl) (wu64n (by omega))) <| pg (λ_ hF=>ex_add (hF.ev rfl) (hF.ev rfl) vu64) <| pa rfl <| PR.nil) ?_
    clear hF fa;intro fa hF
    replace hF:Frm 179 fa [(0,(.slice (A4) ((trimz a).length) (c5))),(1,(.slice (A10) ((trimz b).length) (c11))),(4,(.slice (none) (0) (0))),(5,(.slice (none) (0) (0))),(23,(.bool (decide ((((trimz b).length:Nat):Int)=1)))),(34,(.bool (decide ((cmpN (val ((trimz a))) (val ((trimz b))))<0)))),(6,(.int .i64 ((((trimz b).length:Nat):Int)))),(7,(.int .u32 (((sc:Nat):Int)))),(8,(.slice (some ⟨g75,0,none⟩) ((trimz a).length+2) (c76))),(9,(.slice (A103) ((trimz o_91).length) (c104))),(10,(.slice (some ⟨g106,0,none⟩) (((trimz a).length+2)-((trimz b).length)) (((trimz a).length+2)-((trimz b).length)))),(11,(.int .i64 (((j:Nat):Int)-1))),(70,(.bool (decide ((((j:Nat):Int)-1)≥0)))),(12,(.int .u64 ((((U.getD (j-1+(trimz b).length) 0:Nat):Int)*1000000000)+((U.getD (j-1+(trimz b).length-1) 0:Nat):Int)))),(13,(.int .u64 (((g:Nat):Int)-1))),(14,(.int .u64 (((r:Nat):Int)+(((trimz o_91).getD ((trimz b).length-1) 0:Nat):Int)))),(129,(.bool (true)))]:=(hF.all ⟨rfl,rfl,rfl,rfl,rfl,rfl,rfl,rfl,rfl,rfl,rfl,rfl,rfl,rfl,rfl,rfl,rfl,trivial⟩)
    refine c_nil_then ?_
    refine c_seq ?_
    refine c_reg ?_
    refine pr hF (pm rfl <| pg (λ_ hF=>ex_geq (hF.ev rfl) (hF.ev rfl)) <| PR.nil) ?_
    clear hF fa;intro fa hF
    refine c_nil_then ?_
    refine c_cond hF rfl (λhc124=>?_) (λhc124=>?_)
    ·
     have hc124p:(((r:Nat):Int)+(((trimz o_91).getD ((trimz b).length-1) 0:Nat):Int))≥1000000000:=by first|simpa using hc124|exact bang_t hc124|exact bang_f hc124
     have hgr1:=g_dec hgp hgr
     have hout:=gs_out (w2:=U.getD (j-1+(trimz b).length-2) 0) hgr1 htl (by omega) (hvL ((trimz b).length-2)) rfl
     refine c_exit ?_
     refine x_bm rfl ?_
     refine x_te ?_
     refine x_bh ?_
     refine x_tn ?_
     exact ⟨(g-1),(hF.all ⟨rfl,rfl,rfl,rfl,rfl,rfl,rfl,rfl,rfl,rfl,rfl,rfl,rfl,rfl,(lk_int rfl (by omega)),trivial⟩),hS,(E118.trans E_w120),(hout.1),(gs_end hn2 hvn hvb hvtop hgr1 hout.1 hout.2),(by rw [Nat.sub_add_cancel hgp];exact hw1)⟩
    have hc124p:¬ ((((r:Nat):Int)+(((trimz o_91).getD ((trimz b).length-1) 0:Nat):Int))≥1000000000):=by first|simpa using hc124|exact bang_t hc124|exact bang_f hc124
    refine c_skip ?_
    refine x_bn ?_
    refine x_tn ?_
    exact ⟨_,(by omega),(g-1),r+((trimz o_91).getD ((trimz b).length-1) 0),(hF.all ⟨rfl,rfl,rfl,rfl,rfl,rfl,rfl,rfl,rfl,rfl,rfl,rfl,rfl,rfl,(lk_int rfl (by omega)),(lk_int rfl (by omega)),trivial⟩),hS,(E118.trans E_w120),(g_dec hgp hgr),(by omega),(by omega),(by rw [Nat.sub_add_cancel hgp];exact hw1),rfl⟩
   have hk119p:=hk119;simp at hk119p
   have hgB:g<1000000000:=by have:=of_decide_eq_false hk119;omega
   obtain ⟨ad_113,hA_113,hq_113⟩:=(hu105.ext ((((E108.trans E111).trans E_w113).trans E_w114).trans E118)).cl.at2 (us_get (l:=(trimz o_91)) (i:=(trimz b).length-2) (by omega))
   refine drawn2 (N:=179) (L0:=[(0,(.slice (A4) ((trimz a).length) (c5))),(1,(.slice (A10) ((trimz b).length) (c11))),(4,(.slice (none) (0) (0))),(5,(.slice (none) (0) (0))),(23,(.bool (decide ((((trimz b).length:Nat):Int)=1)))),(34,(.bool (decide ((cmpN (val ((trimz a))) (val ((trimz b))))<0)))),(6,(.int .i64 ((((trimz b).length:Nat):Int)))),(7,(.int .u32 (((sc:Nat):Int)))),(8,(.slice (some ⟨g75,0,none⟩) ((trimz a).length+2) (c76))),(9,(.slice (A103) ((trimz o_91).length) (c104))),(10,(.slice (some ⟨g106,0,none⟩) (((trimz a).length+2)-((trimz b).length)) (((trimz a).length+2)-((trimz b).length)))),(11,(.int .i64 (((j:Nat):Int)-1))),(70,(.bool (decide ((((j:Nat):Int)-1)≥0)))),(12,(.int .u64 ((((U.getD (j-1+(trimz b).length) 0:Nat):Int)*1000000000)+((U.getD (j-1+(trimz b).length-1) 0:Nat):Int)))),(13,(.int .u64 (((g:Nat):Int)))),(14,(.int .u64 (((r:Nat):Int))))]) [some (.int .u64 (((g:Nat):Int))),some (.bool (false)),some (.bool (false)),some (.int .u64 (((g:Nat):Int))),some (.slice (A103) ((trimz o_91).length) (c104)),some (.int .i64 ((((trimz b).length:Nat):Int))),some (.int .i64 ((((trimz b).length:Nat):Int)-2)),some (.pointer (some (ad_113.add ((trimz b).length-2)))),some (.int .u32 ((((trimz o_91).getD ((trimz b).length-2) 0:Nat):Int))),some (.int .u64 ((((trimz o_91).getD ((trimz b).length-2) 0:Nat):Int))),some (.int .u64 (((g:Nat):Int)*(((trimz o_91).getD ((trimz b).length-2) 0:Nat):Int))),some (.int .u64 (((r:Nat):Int))),some (.int .u64 (((r:Nat):Int)*1000000000)),some (.slice (some ⟨g75,0,none⟩) ((trimz a).length+2) (c76)),some (.int .i64 (((j:Nat):Int)-1)),some (.int .i64 ((((trimz b).length:Nat):Int))),some (.int .i64 ((((j:Nat):Int)-1)+(((trimz b).length:Nat):Int))),some (.int .i64 (((((j:Nat):Int)-1)+(((trimz b).length:Nat):Int))-2)),some (.pointer (some ⟨g75,j-1+(trimz b).length-2,none⟩)),some (.int .u32 (((U.getD (j-1+(trimz b).length-2) 0:Nat):Int))),some (.int .u64 (((U.getD (j-1+(trimz b).length-2) 0:Nat):Int))),some (.int .u64 ((((r:Nat):Int)*1000000000)+((U.getD (j-1+(trimz b).length-2) 0:Nat):Int))),some (.bool (decide ((((g:Nat):Int)*(((trimz o_91).getD ((trimz b).length-2) 0:Nat):Int)) > ((((r:Nat):Int)*1000000000)+((U.getD (j-1+(trimz b).length-2) 0:Nat):Int))))),some (.bool (decide ((((g:Nat):Int)*(((trimz o_91).getD ((trimz b).length-2) 0:Nat):Int)) > ((((r:Nat):Int)*1000000000)+((U.getD (j-1+(trimz b).length-2) 0:Nat):Int)))))] [] [[]] [[0],[0],[0],[0],[0],[0],[0],[0],[0],[0],[0],[0],[0],[0],[0],[0],[0],[0],[0],[0],[0],[0],[0],[0]] 0 [
    λfa w'=>Frm 179 fa []∧St w w' [(g106,158,(us (Q)).toArray),(g75,158,(us (U)++R77).toArray)]∧Ext w117 (g106 :: (g75 :: X)) w' (g106 :: (g75 :: X))
    ] TfR.mixed rfl rfl rfl rfl rfl rfl (hF.all ⟨rfl,rfl,rfl,rfl,rfl,rfl,rfl,rfl,rfl,rfl,rfl,rfl,rfl,rfl,rfl,rfl,trivial⟩) rfl ⟨hF.nil,hS.drew,Ext.drew _ _⟩ ?_ ?_ ?_
   all_goals clear hF fa
   ·
    refine ⟨?_,trivial⟩
    ·
     rintro fa w' i o d v ho hd hna ⟨hA,hR⟩;exact ⟨hA.put_other v (freeOf_at (acts:=[]) rfl ho hd hna),hR⟩
   ·
    refine ⟨?_, ?_, ?_, ?_, ?_, ?_, ?_, ?_, ?_, ?_, ?_, ?_, ?_, ?_, ?_, ?_, ?_, ?_, ?_, ?_, ?_, ?_, ?_, ?_,trivial⟩
    ·
     refine .inl ⟨rfl,_,_,rfl,rfl,λs fa w' hΦ hF hB K hK=>?_⟩
     exact fl_val rfl rfl rfl (ex_move (hF.ev rfl)) hK
    ·
     refine .inl ⟨rfl,_,_,rfl,rfl,λs fa w' hΦ hF hB K hK=>?_⟩
     replace hF:=hF.cons (hB.val 0 _ 106 _ rfl rfl rfl rfl)
     exact fl_val rfl rfl rfl (ex_b hk119 (ex_geq (hF.ev rfl) (hF.ev rfl))) hK
    ·
     refine .inl ⟨rfl,_,_,rfl,rfl,λs fa w' hΦ hF hB K hK=>?_⟩
     replace hF:=hF.cons (hB.val 1 _ 107 _ rfl rfl rfl rfl)
     exact fl_val rfl rfl rfl (ex_move (hF.ev rfl)) hK
    ·
     refine .inl ⟨rfl,_,_,rfl,rfl,λs fa w' hΦ hF hB K hK=>?_⟩
     replace hF:=hF.cons (hB.val 2 _ 108 _ rfl rfl rfl rfl)
     exact fl_valg hF rfl rfl rfl rfl (ex_move (hF.ev rfl)) hK
    ·
     refine .inl ⟨rfl,_,_,rfl,rfl,λs fa w' hΦ hF hB K hK=>?_⟩
     replace hF:=hF.cons (hB.val 2 _ 108 _ rfl rfl rfl rfl)
     exact fl_valg hF rfl rfl rfl rfl (ex_move (hF.ev rfl)) hK
    ·
     refine .inl ⟨rfl,_,_,rfl,rfl,λs fa w' hΦ hF hB K hK=>?_⟩
     replace hF:=hF.cons (hB.val 2 _ 108 _ rfl rfl rfl rfl)
     exact fl_valg hF rfl rfl rfl rfl (ex_move (hF.ev rfl)) hK
    ·
     refine .inl ⟨rfl,_,_,rfl,rfl,λs fa w' hΦ hF hB K hK=>?_⟩
     replace hF:=hF.cons (hB.val 5 _ 111 _ rfl rfl rfl rfl)
     replace hF:=hF.cons (hB.val 2 _ 108 _ rfl rfl rfl rfl)
     exact fl_valg hF rfl rfl rfl rfl (ex_sub (hF.ev rfl) (hF.ev rfl) vi64) hK
    ·
     refine .inl ⟨rfl,_,_,rfl,rfl,λs fa w' hΦ hF hB K hK=>?_⟩
     replace hF:=hF.cons (hB.val 4 _ 110 _ rfl rfl rfl rfl)
     replace hF:=hF.cons (hB.val 6 _ 112 _ rfl rfl rfl rfl)
     replace hF:=hF.cons (hB.val 2 _ 108 _ rfl rfl rfl rfl)
     exact fl_valg hF rfl rfl rfl rfl (ex_idx (j:=(trimz b).length-2) TfR.sl28 (hF.ev rfl) hA_113 (hF.ev rfl) (by omega) (by omega)) hK
    ·
     refine .inr (.inl ⟨rfl,_,_,rfl,rfl, ?_,trivial⟩)
     ·
      intro fa w' hΦ hF hB K hK
      obtain ⟨hA,hS,E_w'⟩:=hΦ
      replace hF:=hF.cons (hB.val 7 _ 113 _ rfl rfl rfl rfl)
      replace hF:=hF.cons (hB.val 2 _ 108 _ rfl rfl rfl rfl)
      exact fl_valg hF rfl rfl rfl rfl (ex_load1 TfR.one158 (hF.ev rfl) (hq_113 E_w')) hK
    ·
     refine .inl ⟨rfl,_,_,rfl,rfl,λs fa w' hΦ hF hB K hK=>?_⟩
     replace hF:=hF.cons (hB.val 8 _ 114 _ rfl rfl rfl rfl)
     replace hF:=hF.cons (hB.val 2 _ 108 _ rfl rfl rfl rfl)
     exact fl_valg hF rfl rfl rfl rfl (ex_conv TfR.unds158 TfR.und134 (hF.ev rfl) (wu64n (by omega))) hK
    ·
     refine .inl ⟨rfl,_,_,rfl,rfl,λs fa w' hΦ hF hB K hK=>?_⟩
     replace hF:=hF.cons (hB.val 3 _ 109 _ rfl rfl rfl rfl)
     replace hF:=hF.cons (hB.val 9 _ 115 _ rfl rfl rfl rfl)
     replace hF:=hF.cons (hB.val 2 _ 108 _ rfl rfl rfl rfl)
     exact fl_valg hF rfl rfl rfl rfl (ex_mul (hF.ev rfl) (hF.ev rfl) vu64) hK
    ·
     refine .inl ⟨rfl,_,_,rfl,rfl,λs fa w' hΦ hF hB K hK=>?_⟩
     replace hF:=hF.cons (hB.val 2 _ 108 _ rfl rfl rfl rfl)
     exact fl_valg hF rfl rfl rfl rfl (ex_move (hF.ev rfl)) hK
    ·
     refine .inl ⟨rfl,_,_,rfl,rfl,λs fa w' hΦ hF hB K hK=>?_⟩
     replace hF:=hF.cons (hB.val 11 _ 117 _ rfl rfl rfl rfl)
     replace hF:=hF.cons (hB.val 2 _ 108 _ rfl rfl rfl rfl)
     exact fl_valg hF rfl rfl rfl rfl (ex_mul (hF.ev rfl) (hF.ev rfl) vu64) hK
    ·
     refine .inl ⟨rfl,_,_,rfl,rfl,λs fa w' hΦ hF hB K hK=>?_⟩
     replace hF:=hF.cons (hB.val 2 _ 108 _ rfl rfl rfl rfl)
     exact fl_valg hF rfl rfl rfl rfl (ex_move (hF.ev rfl)) hK
    ·
     refine .inl ⟨rfl,_,_,rfl,rfl,λs fa w' hΦ hF hB K hK=>?_⟩
     replace hF:=hF.cons (hB.val 2 _ 108 _ rfl rfl rfl rfl)
     exact fl_valg hF rfl rfl rfl rfl (ex_move (hF.ev rfl)) hK
    ·
     refine .inl ⟨rfl,_,_,rfl,rfl,λs fa w' hΦ hF hB K hK=>?_⟩
     replace hF:=hF.cons (hB.val 2 _ 108 _ rfl rfl rfl rfl)
     exact fl_valg hF rfl rfl rfl rfl (ex_move (hF.ev rfl)) hK
    ·
     refine .inl ⟨rfl,_,_,rfl,rfl,λs fa w' hΦ hF hB K hK=>?_⟩
     replace hF:=hF.cons (hB.val 14 _ 120 _ rfl rfl rfl rfl)
     replace hF:=hF.cons (hB.val 15 _ 121 _ rfl rfl rfl rfl)
     replace hF:=hF.cons (hB.val 2 _ 108 _ rfl rfl rfl rfl)
     exact fl_valg hF rfl rfl rfl rfl (ex_add (hF.ev rfl) (hF.ev rfl) vi64) hK
    ·
     refine .inl ⟨rfl,_,_,rfl,rfl,λs fa w' hΦ hF hB K hK=>?_⟩
     replace hF:=hF.cons (hB.val 16 _ 122 _ rfl rfl rfl rfl)
     replace hF:=hF.cons (hB.val 2 _ 108 _ rfl rfl rfl rfl)
     exact fl_valg hF rfl rfl rfl rfl (ex_sub (hF.ev rfl) (hF.ev rfl) vi64) hK
    ·
     refine .inl ⟨rfl,_,_,rfl,rfl,λs fa w' hΦ hF hB K hK=>?_⟩
     replace hF:=hF.cons (hB.val 13 _ 119 _ rfl rfl rfl rfl)
     replace hF:=hF.cons (hB.val 17 _ 123 _ rfl rfl rfl rfl)
     replace hF:=hF.cons (hB.val 2 _ 108 _ rfl rfl rfl rfl)
     exact fl_valg hF rfl rfl rfl rfl (ex_idxo (j:=j-1+(trimz b).length-2) TfR.sl28 (hF.ev rfl) (hF.ev rfl) (by omega) (by omega)) hK
    ·
     refine .inr (.inl ⟨rfl,_,_,rfl,rfl, ?_,trivial⟩)
     ·
      intro fa w' hΦ hF hB K hK
      obtain ⟨hA,hS,E_w'⟩:=hΦ
      replace hF:=hF.cons (hB.val 18 _ 124 _ rfl rfl rfl rfl)
      replace hF:=hF.cons (hB.val 2 _ 108 _ rfl rfl rfl rfl)
      exact fl_valg hF rfl rfl rfl rfl (ex_load1b TfR.one158 (hF.ev rfl) (hS.get 1 rfl) (us_arr2 (by first|omega|(simp;omega)))) hK
    ·
     refine .inl ⟨rfl,_,_,rfl,rfl,λs fa w' hΦ hF hB K hK=>?_⟩
     replace hF:=hF.cons (hB.val 19 _ 125 _ rfl rfl rfl rfl)
     replace hF:=hF.cons (hB.val 2 _ 108 _ rfl rfl rfl rfl)
     exact fl_valg hF rfl rfl rfl rfl (ex_conv TfR.unds158 TfR.und134 (hF.ev rfl) (wu64n (by omega))) hK
    ·
     refine .inl ⟨rfl,_,_,rfl,rfl,λs fa w' hΦ hF hB K hK=>?_⟩
     replace hF:=hF.cons (hB.val 12 _ 118 _ rfl rfl rfl rfl)
     replace hF:=hF.cons (hB.val 20 _ 126 _ rfl rfl rfl rfl)
     replace hF:=hF.cons (hB.val 2 _ 108 _ rfl rfl rfl rfl)
     exact fl_valg hF rfl rfl rfl rfl (ex_add (hF.ev rfl) (hF.ev rfl) vu64) hK
    ·
     refine .inl ⟨rfl,_,_,rfl,rfl,λs fa w' hΦ hF hB K hK=>?_⟩
     replace hF:=hF.cons (hB.val 10 _ 116 _ rfl rfl rfl rfl)
     replace hF:=hF.cons (hB.val 21 _ 127 _ rfl rfl rfl rfl)
     replace hF:=hF.cons (hB.val 2 _ 108 _ rfl rfl rfl rfl)
     exact fl_valg hF rfl rfl rfl rfl (ex_gtr (hF.ev rfl) (hF.ev rfl)) hK
    ·
     refine .inl ⟨rfl,_,_,rfl,rfl,λs fa w' hΦ hF hB K hK=>?_⟩
     replace hF:=hF.cons (hB.val 2 _ 108 _ rfl rfl rfl rfl)
     replace hF:=hF.cons (hB.val 22 _ 128 _ rfl rfl rfl rfl)
     exact fl_val rfl rfl rfl (ex_pick (hF.ev rfl) (u:=undef) (λh=>by cases h) (λ_=>hF.ev rfl) rfl) hK
   intro fa w125 hΦ hF hC
   obtain ⟨hA,hS,E_w125⟩:=hΦ
   replace hF:=hF.cons (hC 23 _ 129 _ rfl rfl rfl)
   clear hA hC
   refine x_tn ?_
   refine c_cond hF rfl (λhc126=>?_) (λhc126=>?_)
   ·
    have hc126p:(((g:Nat):Int)*(((trimz o_91).getD ((trimz b).length-2) 0:Nat):Int)) > ((((r:Nat):Int)*1000000000)+((U.getD (j-1+(trimz b).length-2) 0:Nat):Int)):=by first|simpa using hc126|exact bang_t hc126|exact bang_f hc126
    have hgv:g*(trimz o_91).getD ((trimz b).length-2) 0 > r*1000000000+U.getD (j-1+(trimz b).length-2) 0:=gt_cast hc126p
    have hgp:=g_pos hgv
    have hw1:=gs_step hn2 hvn hbU hgr hgv
    refine c_skip ?_
    refine x_tn ?_
    refine c_block ?_
    refine c_seq ?_
    refine c_reg ?_
    refine pr hF (pm rfl <| pg (λ_ hF=>ex_sub (hF.ev rfl) (hF.ev rfl) vu64) <| pa rfl <| PR.nil) ?_
    clear hF fa;intro fa hF
    refine c_nil_then ?_
    refine c_seq ?_
    refine c_reg ?_
    refine pr hF (pm rfl <| pm rfl <| pm rfl <| pg (λ_ hF=>ex_sub (hF.ev rfl) (hF.ev rfl) vi64) <| PR.nil) ?_
    clear hF fa;intro fa hF
    obtain ⟨ad127,hA128,hq129⟩:=(hu105.ext (((((E108.trans E111).trans E_w113).trans E_w114).trans E118).trans E_w125)).cl.at_ (us_get (l:=(trimz o_91)) (i:=(trimz b).length-1) (by omega))
    refine pr hF (pg (λ_ hF=>ex_idx (j:=(trimz b).length-1) TfR.sl28 (hF.ev rfl) hA128 (hF.ev rfl) (by omega) (by omega)) <| pg (λ_ hF=>ex_load1 TfR.one158 (hF.ev rfl) hq129) <| pg (λ_ hF=>ex_conv TfR.unds158 TfR.und134 (hF.ev rfl) (wu64n (by omega))) <| pg (λ_ hF=>ex_add (hF.ev rfl) (hF.ev rfl) vu64) <| pa rfl <| PR.nil) ?_
    clear hF fa;intro fa hF
    replace hF:Frm 179 fa [(0,(.slice (A4) ((trimz a).length) (c5))),(1,(.slice (A10) ((trimz b).length) (c11))),(4,(.slice (none) (0) (0))),(5,(.slice (none) (0) (0))),(23,(.bool (decide ((((trimz b).length:Nat):Int)=1)))),(34,(.bool (decide ((cmpN (val ((trimz a))) (val ((trimz b))))<0)))),(6,(.int .i64 ((((trimz b).length:Nat):Int)))),(7,(.int .u32 (((sc:Nat):Int)))),(8,(.slice (some ⟨g75,0,none⟩) ((trimz a).length+2) (c76))),(9,(.slice (A103) ((trimz o_91).length) (c104))),(10,(.slice (some ⟨g106,0,none⟩) (((trimz a).length+2)-((trimz b).length)) (((trimz a).length+2)-((trimz b).length)))),(11,(.int .i64 (((j:Nat):Int)-1))),(70,(.bool (decide ((((j:Nat):Int)-1)≥0)))),(12,(.int .u64 ((((U.getD (j-1+(trimz b).length) 0:Nat):Int)*1000000000)+((U.getD (j-1+(trimz b).length-1) 0:Nat):Int)))),(13,(.int .u64 (((g:Nat):Int)-1))),(14,(.int .u64 (((r:Nat):Int)+(((trimz o_91).getD ((trimz b).length-1) 0:Nat):Int)))),(129,(.bool (decide ((((g:Nat):Int)*(((trimz o_91).getD ((trimz b).length-2) 0:Nat):Int)) > ((((r:Nat):Int)*1000000000)+((U.getD (j-1+(trimz b).length-2) 0:Nat):Int))))))]:=(hF.all ⟨rfl,rfl,rfl,rfl,rfl,rfl,rfl,rfl,rfl,rfl,rfl,rfl,rfl,rfl,rfl,rfl,rfl,trivial⟩)
    refine c_nil_then ?_
    refine c_seq ?_
    refine c_reg ?_
    refine pr hF (pm rfl <| pg (λ_ hF=>ex_geq (hF.ev rfl) (hF.ev rfl)) <| PR.nil) ?_
    clear hF fa;intro fa hF
    refine c_nil_then ?_
    refine c_cond hF rfl (λhc130=>?_) (λhc130=>?_)
    ·
     have hc130p:(((r:Nat):Int)+(((trimz o_91).getD ((trimz b).length-1) 0:Nat):Int))≥1000000000:=by first|simpa using hc130|exact bang_t hc130|exact bang_f hc130
     have hgr1:=g_dec hgp hgr
     have hout:=gs_out (w2:=U.getD (j-1+(trimz b).length-2) 0) hgr1 htl (by omega) (hvL ((trimz b).length-2)) rfl
     refine c_exit ?_
     refine x_bm rfl ?_
     refine x_te ?_
     refine x_bh ?_
     refine x_tn ?_
     exact ⟨(g-1),(hF.all ⟨rfl,rfl,rfl,rfl,rfl,rfl,rfl,rfl,rfl,rfl,rfl,rfl,rfl,rfl,(lk_int rfl (by omega)),trivial⟩),hS,(E118.trans E_w125),(hout.1),(gs_end hn2 hvn hvb hvtop hgr1 hout.1 hout.2),(by rw [Nat.sub_add_cancel hgp];exact hw1)⟩
    have hc130p:¬ ((((r:Nat):Int)+(((trimz o_91).getD ((trimz b).length-1) 0:Nat):Int))≥1000000000):=by first|simpa using hc130|exact bang_t hc130|exact bang_f hc130
    refine c_skip ?_
    refine x_bn ?_
    refine x_tn ?_
    exact ⟨_,(by omega),(g-1),r+((trimz o_91).getD ((trimz b).length-1) 0),(hF.all ⟨rfl,rfl,rfl,rfl,rfl,rfl,rfl,rfl,rfl,rfl,rfl,rfl,rfl,rfl,(lk_int rfl (by omega)),(lk_int rfl (by omega)),trivial⟩),hS,(E118.trans E_w125),(g_dec hgp hgr),(by omega),(by omega),(by rw [Nat.sub_add_cancel hgp];exact hw1),rfl⟩
   have hc126p:¬ ((((g:Nat):Int)*(((trimz o_91).getD ((trimz b).length-2) 0:Nat):Int)) > ((((r:Nat):Int)*1000000000)+((U.getD (j-1+(trimz b).length-2) 0:Nat):Int))):=by first|simpa using hc126|exact bang_t hc126|exact bang_f hc126
   refine c_exit ?_
   refine x_te ?_
   refine x_te ?_
   refine x_bh ?_
   refine x_tn ?_
   exact ⟨(g),(hF.all ⟨rfl,rfl,rfl,rfl,rfl,rfl,rfl,rfl,rfl,rfl,rfl,rfl,rfl,rfl,(lk_int rfl (by omega)),trivial⟩),hS,(E118.trans E_w125),(hgB),(gs_end hn2 hvn hvb hvtop hgr hgB (by omega)),(hgw)⟩
  clear hF fa hS
  rintro fa w115 ⟨gs,hF,hS,E116,hgsB,hslo,hshi⟩
  refine c_seq ?_
  refine c_seq ?_
  refine c_reg ?_
  refine pr hF (pm rfl <| pm rfl <| pm rfl <| pm rfl <| pg (λ_ hF=>ex_add (hF.ev rfl) (hF.ev rfl) vi64) <| pg (λ_ hF=>ex_add (hF.ev rfl) (hF.ev rfl) vi64) <| pg (λ_ hF=>ex_slice_lhq (j:=j-1) (m:=j-1+(trimz b).length+1) (q:=(trimz b).length+1) TfR.sl28 (hF.ev rfl) (hF.ev rfl) (hF.ev rfl) (by omega) (by omega) (by omega) (by omega) (by omega) (by omega)) <| pm rfl <| pm rfl <| PR.nil) ?_
  clear hF fa;intro fa hF
  replace hS:St w w115 [(g75,158,(us (U)++R77).toArray),(g106,158,(us (Q)).toArray)]:=hS.perm (List.Perm.swap _ _ _)
  have E131:Ext w115 (g106 :: (g75 :: X)) w115 (g75 :: (g106 :: X)):=Ext.drop (by simp +contextual)
  have hC:=integer_subtract_ok (w:=w115) (X:=X) (So:=[(g106,158,(us (Q)).toArray)]) (v:=(trimz o_91)) (U:=U) (c_U:=c76-(j-1)) hX hS (j-1) ((trimz b).length+1) ⟨_,((trimz o_91).length),_,rfl,(rfl),(hu105.ext (((((E108.trans E111).trans E_w113).trans E_w114).trans E116).trans E131))⟩ (gs) (by omega) (by omega) (by omega) (hbU) (hvb) (hgsB)
  refine st rfl (op_call hF rfl TfR.body184 (args3 (hF.ev rfl) (hF.ev rfl) (hF.ev (ev_int (b:=((gs:Nat):Int)) rfl (by first|rfl|omega)))) hC ?_)
  clear hC hS
  rintro _ w135 ⟨o_137,cy_138,rfl,hp139,hp140,hp141,hp142,hp143,hS,E136⟩
  refine gen_ ?_;clear hF fa;intro fa hF
  replace E136:Ext w115 (g75 :: (g106 :: X)) w135 (g75 :: (g106 :: X)):=E136
  have hs_len:=hp139;have hs_lb:=hp140;have hs_tk:=hp141;have hs_dr:=hp142;have hs_v:=hp143
  replace hF:Frm 179 fa [(0,(.slice (A4) ((trimz a).length) (c5))),(1,(.slice (A10) ((trimz b).length) (c11))),(4,(.slice (none) (0) (0))),(5,(.slice (none) (0) (0))),(23,(.bool (decide ((((trimz b).length:Nat):Int)=1)))),(34,(.bool (decide ((cmpN (val ((trimz a))) (val ((trimz b))))<0)))),(6,(.int .i64 ((((trimz b).length:Nat):Int)))),(7,(.int .u32 (((sc:Nat):Int)))),(8,(.slice (some ⟨g75,0,none⟩) ((trimz a).length+2) (c76))),(9,(.slice (A103) ((trimz o_91).length) (c104))),(10,(.slice (some ⟨g106,0,none⟩) (((trimz a).length+2)-((trimz b).length)) (((trimz a).length+2)-((trimz b).length)))),(11,(.int .i64 (((j:Nat):Int)-1))),(70,(.bool (decide ((((j:Nat):Int)-1)≥0)))),(12,(.int .u64 ((((U.getD (j-1+(trimz b).length) 0:Nat):Int)*1000000000)+((U.getD (j-1+(trimz b).length-1) 0:Nat):Int)))),(13,(.int .u64 (((gs:Nat):Int)))),(151,(.bool (decide (0<cy_138))))]:=(hF.all ⟨rfl,rfl,rfl,rfl,rfl,rfl,rfl,rfl,rfl,rfl,rfl,rfl,rfl,rfl,rfl,rfl,trivial⟩)
  refine c_nil_then ?_
  refine c_cond hF rfl (λhc144=>?_) (λhc144=>?_)
  ·
   have hc144p:0<cy_138:=by first|simpa using hc144|exact bang_t hc144|exact bang_f hc144
   have hgs0:0<gs:=dig_pos hs_v hc144p (win_lt hs_lb _ _)
   have hcyp:=hc144p
   refine c_seq ?_
   refine c_reg ?_
   refine pr hF (pm rfl <| pg (λ_ hF=>ex_sub (hF.ev rfl) (hF.ev rfl) vu64) <| pa rfl <| PR.nil) ?_
   clear hF fa;intro fa hF
   refine c_nil_then ?_
   refine c_reg ?_
   refine pr hF (pm rfl <| pm rfl <| pm rfl <| pm rfl <| pg (λ_ hF=>ex_add (hF.ev rfl) (hF.ev rfl) vi64) <| pg (λ_ hF=>ex_add (hF.ev rfl) (hF.ev rfl) vi64) <| pg (λ_ hF=>ex_slice_lhq (j:=j-1) (m:=j-1+(trimz b).length+1) (q:=(trimz b).length+1) TfR.sl28 (hF.ev rfl) (hF.ev rfl) (hF.ev rfl) (by omega) (by omega) (by omega) (by omega) (by omega) (by omega)) <| pm rfl <| PR.nil) ?_
   clear hF fa;intro fa hF
   have hC:=integer_restore_ok (w:=w135) (X:=X) (So:=[(g106,158,(us (Q)).toArray)]) (v:=(trimz o_91)) (U:=o_137) (c_U:=c76-(j-1)) hX hS (j-1) ((trimz b).length+1) ⟨_,((trimz o_91).length),_,rfl,(rfl),(hu105.ext ((((((E108.trans E111).trans E_w113).trans E_w114).trans E116).trans E131).trans E136))⟩ (by omega) (by omega) (by omega) (hs_lb) (hvb)
   refine st rfl (op_call hF rfl TfR.body185 (args2 (hF.ev rfl) (hF.ev rfl)) hC ?_)
   clear hC hS
   rintro _ w148 ⟨o_150,cy_151,rfl,hp152,hp153,hp154,hp155,hp156,hp157,hS,E149⟩
   refine gen_ ?_;clear hF fa;intro fa hF
   replace E149:Ext w135 (g75 :: (g106 :: X)) w148 (g75 :: (g106 :: X)):=E149
   have hr_len:=hp152;have hr_lb:=hp153;have hr_tk:=hp154;have hr_dr:=hp155;have hr_v:=hp156;have hr_c:=hp157
   have hdb:=dig_back hs_v hcyp (win_lt hs_lb _ _) hslo hVM hr_v (win_lt hr_lb _ _) hr_c
   refine c_nil_then ?_
   refine c_reg ?_
   refine pr hF (pm rfl <| pm rfl <| pm rfl <| pg (λ_ hF=>ex_conv TfR.unds134 TfR.und158 (hF.ev rfl) vu32) <| pg (λ_ hF=>ex_idxo (j:=j-1) TfR.sl28 (hF.ev rfl) (hF.ev rfl) (by omega) (by omega)) <| PR.nil) ?_
   clear hF fa;intro fa hF
   refine st rfl (op_store (vs:=#[.int .u32 ((gs-1:Nat):Int)]) (v:=.int .u32 ((gs-1:Nat):Int)) (X:=(g75 :: (g106 :: X))) hF hS 1 rfl (by simp) rfl (ev_int rfl (by omega)) rfl TfR.size158 rfl (us_fit (by first|omega|(simp;omega))) ?_)
   intro w158 hS E159
   rw [splice_us (by first|omega|(simp;omega))] at hS
   replace hF:Frm 179 fa [(0,(.slice (A4) ((trimz a).length) (c5))),(1,(.slice (A10) ((trimz b).length) (c11))),(4,(.slice (none) (0) (0))),(5,(.slice (none) (0) (0))),(23,(.bool (decide ((((trimz b).length:Nat):Int)=1)))),(34,(.bool (decide ((cmpN (val ((trimz a))) (val ((trimz b))))<0)))),(6,(.int .i64 ((((trimz b).length:Nat):Int)))),(7,(.int .u32 (((sc:Nat):Int)))),(8,(.slice (some ⟨g75,0,none⟩) ((trimz a).length+2) (c76))),(9,(.slice (A103) ((trimz o_91).length) (c104))),(10,(.slice (some ⟨g106,0,none⟩) (((trimz a).length+2)-((trimz b).length)) (((trimz a).length+2)-((trimz b).length)))),(11,(.int .i64 (((j:Nat):Int)-1))),(70,(.bool (decide ((((j:Nat):Int)-1)≥0)))),(12,(.int .u64 ((((U.getD (j-1+(trimz b).length) 0:Nat):Int)*1000000000)+((U.getD (j-1+(trimz b).length-1) 0:Nat):Int)))),(13,(.int .u64 (((gs:Nat):Int)-1))),(151,(.bool (decide (0<cy_138))))]:=(hF.all ⟨rfl,rfl,rfl,rfl,rfl,rfl,rfl,rfl,rfl,rfl,rfl,rfl,rfl,rfl,rfl,rfl,trivial⟩)
   refine c_nil ?_
   refine x_bn ?_
   refine x_tn ?_
   refine c_reg ?_
   refine pr hF (pm rfl <| pg (λ_ hF=>ex_sub (hF.ev rfl) (hF.ev rfl) vi64) <| pa rfl <| PR.nil) ?_
   clear hF fa;intro fa hF
   refine c_nil ?_
   refine x_tn ?_
   replace hS:St w w158 [(g106,158,(us (Q.set (j-1) (gs-1))).toArray),(g75,158,(us (o_150)++R77).toArray)]:=hS.perm (List.Perm.swap _ _ _)
   have E160:Ext w158 (g75 :: (g106 :: X)) w158 (g106 :: (g75 :: X)):=Ext.drop (by simp +contextual)
   exact ⟨_,(by omega),o_150,Q.set (j-1) (gs-1),(j-1),(hF.all ⟨rfl,rfl,rfl,rfl,rfl,rfl,rfl,rfl,rfl,rfl,rfl,(lk_int rfl (by omega)),trivial⟩),hS,((((((((E111.trans E_w113).trans E_w114).trans E116).trans E131).trans E136).trans E149).trans E159).trans E160),(by omega),(hr_len.trans (hs_len.trans hUl)),(hr_lb),(by simp;omega),(lb_set hbQ (by omega)),(DivInv.step (k:=j-1) (n:=(trimz b).length) hI (by omega) (by omega) (hr_len.trans hs_len) (by omega) (hr_tk.trans hs_tk) (hr_dr.trans hs_dr) hdw.rest rfl rfl hdb.2),rfl⟩
  have hc144p:¬ (0<cy_138):=by first|simpa using hc144|exact bang_t hc144|exact bang_f hc144
  refine c_skip ?_
  refine x_tn ?_
  refine c_reg ?_
  refine pr hF (pm rfl <| pm rfl <| pm rfl <| pg (λ_ hF=>ex_conv TfR.unds134 TfR.und158 (hF.ev rfl) (wu32n (by omega))) <| pg (λ_ hF=>ex_idxo (j:=j-1) TfR.sl28 (hF.ev rfl) (hF.ev rfl) (by omega) (by omega)) <| PR.nil) ?_
  clear hF fa;intro fa hF
  refine st rfl (op_store (vs:=#[.int .u32 ((gs:Nat):Int)]) (v:=.int .u32 ((gs:Nat):Int)) (X:=(g75 :: (g106 :: X))) hF hS 1 rfl (by simp) rfl (ev_int rfl (by omega)) rfl TfR.size158 rfl (us_fit (by first|omega|(simp;omega))) ?_)
  intro w161 hS E162
  rw [splice_us (by first|omega|(simp;omega))] at hS
  refine c_nil ?_
  refine x_bn ?_
  refine x_tn ?_
  refine c_reg ?_
  refine pr hF (pm rfl <| pg (λ_ hF=>ex_sub (hF.ev rfl) (hF.ev rfl) vi64) <| pa rfl <| PR.nil) ?_
  clear hF fa;intro fa hF
  refine c_nil ?_
  refine x_tn ?_
  replace hS:St w w161 [(g106,158,(us (Q.set (j-1) (gs))).toArray),(g75,158,(us (o_137)++R77).toArray)]:=hS.perm (List.Perm.swap _ _ _)
  have E163:Ext w161 (g75 :: (g106 :: X)) w161 (g106 :: (g75 :: X)):=Ext.drop (by simp +contextual)
  exact ⟨_,(by omega),o_137,Q.set (j-1) (gs),(j-1),(hF.all ⟨rfl,rfl,rfl,rfl,rfl,rfl,rfl,rfl,rfl,rfl,rfl,(lk_int rfl (by omega)),trivial⟩),hS,(((((((E111.trans E_w113).trans E_w114).trans E116).trans E131).trans E136).trans E162).trans E163),(by omega),(hs_len.trans hUl),(hs_lb),(by simp;omega),(lb_set hbQ (by omega)),(DivInv.step (k:=j-1) (n:=(trimz b).length) hI (by omega) (by omega) hs_len (by omega) hs_tk hs_dr hdw.rest rfl rfl (dig_keep hs_v (by omega) hshi)),rfl⟩
 have hc112p:¬ ((((j:Nat):Int)-1)≥0):=by first|simpa using hc112|exact bang_t hc112|exact bang_f hc112
 refine c_exit ?_
 refine x_te ?_
 refine x_te ?_
 refine x_bh ?_
 refine x_tn ?_
 refine c_seq ?_
 refine c_reg ?_
 refine pr hF (pm rfl <| pm rfl <| pg (λ_ hF=>ex_slice_h (j:=(trimz b).length) TfR.sl28 (hF.ev rfl) (hF.ev rfl) (by omega) (by omega)) <| PR.nil) ?_
 clear hF fa;intro fa hF
 obtain ⟨hS1,hn1⟩:=hS.out hX 1 rfl
 have hu164:=UC.of_boxR (R:=R77) (c:=c76) (n:=(trimz b).length) (L:=U) (hS.get 1 rfl) hn1 (by unfold maxLen;omega) (by first|omega|(simp;omega)) (by first|omega|(simp;omega))
 have E165:Ext w110 (g106 :: (g75 :: X)) w110 (g106 :: X):=Ext.drop (by simp +contextual)
 replace hu164:UC w110 (g106 :: X) (some ⟨g75,0,none⟩) (c76) (U.take ((trimz b).length)):=hu164
 replace hS:St w w110 [(g106,158,(us (Q)).toArray)]:=hS1;clear hn1
 have hC:=integer_trim_ok (w:=w110) (X:=(g106 :: X)) (l:=(U.take ((trimz b).length))) (hS.bnd hX) ⟨_,((trimz b).length),_,rfl,(by rw [List.length_take];omega),hu164⟩
 refine st rfl (op_call hF rfl TfR.body147 (args1 (hF.ev rfl)) hC ?_)
 clear hC
 rintro _ w166 ⟨⟨A169,_,c170,rfl,rfl,hu171⟩,hb167⟩
 refine gen_ ?_;clear hF fa;intro fa hF
 replace hS:=hS.call hb167;have E168:=Ext.call (g106 :: X) hb167
 refine pr hF (pm rfl <| PR.nil) ?_
 clear hF fa;intro fa hF
 have hC:=integer_byWord_ok (w:=w166) (X:=(g106 :: X)) (a:=(trimz (U.take ((trimz b).length)))) (hS.bnd hX) ⟨_,((trimz (U.take ((trimz b).length))).length),_,rfl,(rfl),hu171⟩ (sc) (by have:=trimz_length_le (U.take (trimz b).length);simp at this;omega) (trimz_lb (hbU.take _)) (hsc0) (hscB)
 refine st rfl (op_call hF rfl TfR.body183 (args2 (hF.ev rfl) (hF.ev (ev_int (b:=((sc:Nat):Int)) rfl (by first|rfl|omega)))) hC ?_)
 clear hC
 rintro _ w172 ⟨⟨qs_175,rs_176,_,_,rfl,⟨A177,_,c178,rfl,rfl,hu179⟩,⟨A180,_,c181,rfl,rfl,hu182⟩,hp183,hp184,hp185,hp186,hp187,hp188⟩,hb173⟩
 refine gen_ ?_;clear hF fa;intro fa hF
 replace hS:=hS.call hb173;have E174:=Ext.call (g106 :: X) hb173
 have hw_lq:=hp183;have hw_v:=hp185;have hw_l:=hp186;have hw_q:=hp187;rw [val_trimz] at hw_v
 refine pr hF (pm rfl <| px rfl rfl <| px rfl rfl <| pa rfl <| pa rfl <| PR.nil) ?_
 clear hF fa;intro fa hF
 replace hF:Frm 179 fa [(0,(.slice (A4) ((trimz a).length) (c5))),(1,(.slice (A10) ((trimz b).length) (c11))),(4,(.slice (none) (0) (0))),(5,(.slice (none) (0) (0))),(23,(.bool (decide ((((trimz b).length:Nat):Int)=1)))),(34,(.bool (decide ((cmpN (val ((trimz a))) (val ((trimz b))))<0)))),(6,(.int .i64 ((((trimz b).length:Nat):Int)))),(7,(.int .u32 (((sc:Nat):Int)))),(8,(.slice (some ⟨g75,0,none⟩) ((trimz a).length+2) (c76))),(9,(.slice (A103) ((trimz o_91).length) (c104))),(10,(.slice (some ⟨g106,0,none⟩) (((trimz a).length+2)-((trimz b).length)) (((trimz a).length+2)-((trimz b).length)))),(11,(.int .i64 (((j:Nat):Int)-1))),(70,(.bool (decide ((((j:Nat):Int)-1)≥0)))),(15,(.slice (A177) (qs_175.length) (c178)))]:=(hF.all ⟨rfl,rfl,rfl,rfl,rfl,rfl,rfl,rfl,rfl,rfl,rfl,rfl,rfl,rfl,trivial⟩)
 refine c_nil_then ?_
 refine c_seq ?_
 refine c_reg ?_
 refine pr hF (pm rfl <| pm rfl <| pa rfl <| pa rfl <| PR.nil) ?_
 clear hF fa;intro fa hF
 refine c_nil_then ?_
 refine c_ret ?_
 have hj0:j=0:=by omega
 subst hj0
 simp only [DivInv,List.drop_zero,Nat.pow_zero,Nat.one_mul] at hI
 have hvlt:=val_lt _ hvb;rw [hvn] at hvlt
 have htk0:=take_small (U:=U) (k:=(trimz b).length) (by omega) (Nat.lt_trans hI.2 hvlt)
 rw [take_small (by omega) (Nat.lt_trans hI.2 hvlt)] at hw_v
 rw [hV] at hI
 have hend:=div_end hsc0 hI.1 hI.2 hw_v hw_l
 have htln:=trimz_length_le (U.take (trimz b).length);simp at htln
 refine end2 hF rfl (res_tmp hF rfl) (res_tmp hF rfl) ?_
 exact ⟨_,rfl,⟨Q,qs_175,_,_,rfl,(UL.own (L:=Q) (hS.get 0 rfl) (hS.notX hX 0 rfl) (by first|rfl|(simp;done)|omega) (by first|rfl|(simp;done)|omega) (by first|omega|(simp;omega)) (rfl)),(UL.fin (L:=qs_175) ⟨_,_,_,rfl,(rfl),hu179⟩ (rfl) (λx hx=>by simp [hx])),(hbQ),(hw_lq),(hend.1),(hend.2),(by unfold dql;rw [if_neg (by omega),if_neg (by omega)];omega),(by unfold drl;rw [if_neg (by omega),if_neg (by omega),hw_q];exact div_rl hbU htk0 (by unfold dsc;rw [← hsc];exact hI.1) hend.1 hend.2)⟩,hS.below⟩
end Go.Proofs.YtbbfmlhkgceabaaGreat
namespace Go.Sw
open Go Go.RowKit
set_option linter.unusedVariables false
section
variable {P:Program} [Wld P] [Kp] {τ:Tab} {N:Nat} {w0:World} {X0:List Nat} {e:Env} {b:Bxs} {a:Act} {w:World}
theorem aops_pre[WOk P w0]{O l2:List Oper}{Q:Exit→Act→World→Prop}{k:Env→Bxs→Prop}(hτ:tabOk P τ=true)(hQ:∀e b a w,k e b→Conc N w0 X0 e b a w→wpList P O.toArray Q l2 a w):∀{l:List Oper} {e:Env} {b:Bxs} {a:Act} {w:World},dstsLt N l=true→aops (Den P) τ O l e b k→Conc N w0 X0 e b a w→wpList P O.toArray Q (l++l2) a w
 |[],e,b,a,w,_,hk,hc=>hQ e b a w hk hc
 |o :: r,e,b,a,w,hd,hk,hc=>by
  simp only [dstsLt,List.all_cons,Bool.and_eq_true] at hd
  simp only [aops,putK_eq,upsK_eq] at hk
  have hdo:∀t,o.dst=some t→DL N t:=by
   intro t ht
   have:=hd.1
   rw [ht] at this
   simpa [DL,Nat.blt_eq] using this
  have:=aopg_seq (k:=λe b=>aops (Den P) τ O r e b k) (K:=wpList P O.toArray Q (r++l2)) (Q:=Q) hτ hc hdo hk (λe b a w hk hc=>aops_pre hτ hQ (l:=r) hd.2 hk hc)
  rw [List.cons_append]
  unfold wpList
  cases hw:Region.wanted o (yielded O.toArray a.tmps) with
  |true=>simp only [if_true];exact .inl (this.1 hw)
  |false=>simp only [Bool.false_eq_true,if_false];exact this.2 hw
theorem wp1{ops:Array Oper}{Q:Exit→Act→World→Prop}{o:Oper}{rest:List Oper}{u:Value}{w':World}(hg:o.guard=none)(hr:(execOp a.eval o).run P w=.ok (.value u) w')(k:wpList P ops Q rest (a.put o.dst u) w'):wpList P ops Q (o :: rest) a w :=
 wpList_plain hg λK hK=>by
  unfold Oper.wp
  rw [hr]
  exact hK _ _ k
theorem Conc.frm(h:Conc N w0 X0 e b a w):Frm N a []:=by
 obtain ⟨S,M,h⟩:=h
 exact ⟨h.sz,h.df.1.1,λt v h=>by simp [lk] at h⟩
theorem Conc.get(h:Conc N w0 X0 e b a w){t:Nat}{u:Value}(hx:ld t e=some (.c (.v u)))(hv:∀A n c,u ≠ .slice A n c):a.tmps.getD t undef=u:=by
 obtain ⟨S,M,h⟩:=h
 exact (h.env t _ hx).v_
theorem Conc.var(h:Conc N w0 X0 e b a w){t i:Nat}{cs:List Cell}(hx:ld t e=some (.ptr i 0))(hb:ld i b=some (.var cs)):∃g T us,a.tmps.getD t undef=.pointer (some ⟨g,0,none⟩)∧w0.heap.size≤g∧w.heap[g]?=some (.cells us T (0,0))∧RepL w X0 us.toList cs:=by
 obtain ⟨S,M,h⟩:=h
 obtain ⟨m,g,hm,hv,hg,hxe⟩:=(h.env t _ hx).ptr_
 obtain ⟨m',hm',h1,h2,⟨g',h3⟩,h4⟩:=h.box i _ hb
 rw [hm] at hm'
 cases hm'
 have h8:=h.ms.st.box _ (h.ms.inS i m hm h2 g hg)
 exact ⟨g,m.T,_,hxe,gr_or h8.2,h8.1,by simpa using h4.ext (Ext.drop λx hx=>List.mem_append_right _ hx)⟩
theorem Conc.sz(h:Conc N w0 X0 e b a w):a.tmps.size=N∧a.defers=[]∧Below w0.heap.size w0 w:=by
 obtain ⟨S,M,h⟩:=h
 exact ⟨h.sz,h.df.1.1,h.ms.st.below.b0⟩
end
theorem Conc.keep(K:List (Nat × Value)){k1:Kp}{N:Nat}{w0:World}{X0:List Nat}{e:Env}{b:Bxs}{a:Act}{w:World}(h : @Conc k1 gr0 N w0 X0 e b a w)(hK:∀t u,(t,u)∈K→a.tmps.getD t undef=u):@Conc ⟨K,k1.h⟩ gr0 N w0 X0 e b a w:=by
 obtain ⟨S,M,h⟩:=h
 exact ⟨S,M,@Sta.mk ⟨K,k1.h⟩ gr0 N w0 X0 S M a w e b h.ms h.x0 h.sz ⟨⟨h.df.1.1,λt u ht=>hK t u ht⟩,h.df.2⟩ h.env h.box⟩
end Go.Sw
namespace Go.Sw
open Go Go.RowKit
set_option linter.unusedVariables false
section
variable {P:Program} [Wld P] {τ:Tab}
theorem endO_ok{fn:Func}{os:List (Option (TypeId × Nat))}{r:AV}{N:Nat}{w:World}{X:List Nat}{x:Ex}{e:Env}{b:Bxs}{a:Act}{w':World}[WOk P w](hτ:tabOk P τ=true)(hx:endO τ fn os r x e b)(hc':Conc N w X e b a w'):bodyPost P fn (Ret λu w1=>RepF w.heap.size w1 X u r∧Below w.heap.size w w1) x.x a w':=by
 obtain ⟨S,M,hs⟩:=hc'
 cases x with
 |normal=>cases hx
 |exit id=>cases hx
 |ret =>
  simp only [endO] at hx
  obtain ⟨vs1,b',G,h1,h2,_,h4,_⟩:=ownsK_ok (P:=P) hs hx
  obtain ⟨us,vs',q1,q2,q3⟩:=mixK_ok h4.at hτ h2 h4 h1
  refine ⟨hs.df.1.1,(if h:us.toArray.size=1 then us.toArray[0] else .tuple us.toArray), ?_,_,rfl, ?_,hs.ms.st.below.b0⟩
  ·rw [run_results,Sem.run_bind,Array.mapM_eq_mapM_toList]
   simp [q2]
  ·rw [← q1.eq]
   refine packF q3 (λg hg=>?_) (h4.nd hs.ms)
   obtain ⟨p,hp,rfl⟩:=List.mem_map.1 hg
   obtain ⟨m,k1,k2,k3,_⟩:=h4.at p hp
   exact gr_or (hs.ms.st.box _ (hs.ms.inS p.1 m k1 k2 p.2 k3)).2
variable [Kp] {N:Nat} {w0:World} {X0:List Nat} {S:List Bx} {M:MM} {e:Env} {b:Bxs} {a:Act} {w:World}
theorem Sta.below(h:Sta N w0 X0 S M a w e b){w':World}(hB:Below w.heap.size w w'):Sta N w0 X0 S M a w' e b:=by
 have hx:=Ext.call (bl S++X0) hB
 exact ⟨h.ms.call hB,h.x0,h.sz,⟨h.df.1,h.df.2.ext hx⟩,λt v hv=>(h.env t v hv).ext hx λi _ m hm=>⟨m,hm,Comp.refl m⟩,λi x hx'=>by
  obtain ⟨m,h1,h2⟩:=h.box i x hx'
  exact ⟨m,h1,h2.ext0 hx⟩⟩
end
end Go.Sw
namespace Go.Sw
open Go Go.RowKit
open Go.WideElems (rd rg pl)
set_option linter.unusedVariables false
inductive SlotR (w:World) (X:List Nat) (T:TypeId) (s:Nat) (more:List Bx):Value→List (List Cell)→Option Nat→Prop where
 |no:SlotR w X T s more (.slice none 0 0) [] none
 |some {g cap:Nat} {es:List (List Cell)} {uss:List (List Value)} {rest:List Value} (hm:(g,T,(uss.flatten++rest).toArray)∈more) (hr:RepS w X s uss es) (hc:cap*s=(uss.flatten++rest).length) (hx:cap≤maxLen) (hn:es.length≤cap) (h0:0<es.length):SlotR w X T s more (.slice (some ⟨g,0,none⟩) es.length cap) es (some g)
theorem SlotR.data{w:World}{X X1:List Nat}{T:TypeId}{s:Nat}{more:List Bx}{v:Value}{es:List (List Cell)}{og:Option Nat}(h:SlotR w X T s more v es og)(hm:∀q:Bx,q∈more→w.heap[q.1]?=Option.some (Obj.cells q.2.2 q.2.1 (0,0)))(hX:∀x∈X1,x∈X∧x ∉ bl more):RepC w X1 v (.sl s es):=by
 cases h with
 |no=>exact .nil _ _ _
 |some hm' hr hc hx hn h0 =>
  rename_i g cap uss rest
  have hh:=hm _ hm'
  have hcl:=Cl.of_block (X:=X1) hh (λhx=>(hX g hx).2 (List.mem_map.2 ⟨_,hm',rfl⟩)) uss.flatten.length
  rw [List.toList_toArray,List.take_left' rfl] at hcl
  exact (hr.ext (Ext.drop λx hx=>(hX x hx).1)).sl hcl hn (by unfold maxLen at hx;omega)
end Go.Sw
namespace Go.Sw
open Go
set_option linter.unusedVariables false
def hf(c p:Rat × Rat):Int:=if c.2<p.2∨(p.2=c.2∧c.1<p.1) then 0 else 1
end Go.Sw
namespace Go.Sw
open Go
set_option linter.unusedVariables false
section
variable {q u1 v1 u2 v2 u3 v3:Rat}
end
end Go.Sw
namespace Go.Sw
open Go
set_option linter.unusedVariables false
@[reducible] def Iv(l h:Int):AV:=.agg [.v (.int .i64 l),.v (.int .i64 h)]
def sgIv(l h:Int):Int × Bool:=if l > 0 then (1,true) else if h<0 then (-1,true) else (0,decide (l=0∧h=0))
def mkI(l h:Int):Option (Int × Int):=if -2305843009213693952≤l∧h≤2305843009213693952 then some (l,h) else none
@[reducible] def Ov(o:Option (Int × Int)):AV:=.tup [Iv (o.getD (0,0)).1 (o.getD (0,0)).2,.bool o.isSome]
theorem mkI_yes{l h:Int}(h1 : -2305843009213693952≤l)(h2:h≤2305843009213693952):mkI l h=some (l,h):=if_pos ⟨h1,h2⟩
theorem mkI_no{l h:Int}(h1:¬(-2305843009213693952≤l∧h≤2305843009213693952)):mkI l h=none:=if_neg h1
theorem sh32:min (Int.toNat 32) IntKind.u64.bits=32:=rfl
theorem sh16:min (Int.toNat 16) IntKind.u64.bits=16:=rfl
theorem sh48:min (Int.toNat 48) IntKind.u64.bits=48:=rfl
theorem fdiv_cast(a n:Nat):((a:Nat):Int).fdiv ((n:Nat):Int)=((a / n:Nat):Int):=by rw [Int.fdiv_eq_ediv_of_nonneg _ (by omega)];rfl
theorem wu(n:Nat):IntKind.u64.wrap ((n:Nat):Int)=((n % 18446744073709551616:Nat):Int):=by rw [IntKind.wrap_u64];omega
theorem andI_mask{a n:Nat}(hn:n≤64)(ha:a<18446744073709551616):andI .u64 ((a:Nat):Int) ((2 ^ n-1:Nat):Int)=((a % 2 ^ n:Nat):Int):=by
 unfold andI
 have h2:2 ^ n≤2 ^ 64:=Nat.pow_le_pow_right (by decide) hn
 have h0:0<2 ^ n:=Nat.pow_pos (by decide)
 have e:(BitVec.ofInt IntKind.u64.bits ((a:Nat):Int) &&& BitVec.ofInt IntKind.u64.bits ((2 ^ n-1:Nat):Int)).toNat=a % 2 ^ n:=by
  show (BitVec.ofInt 64 ((a:Nat):Int) &&& BitVec.ofInt 64 ((2 ^ n-1:Nat):Int)).toNat=a % 2 ^ n
  rw [BitVec.ofInt_natCast,BitVec.ofInt_natCast,BitVec.toNat_and,BitVec.toNat_ofNat,BitVec.toNat_ofNat,Nat.mod_eq_of_lt (show a<2 ^ 64 from ha),Nat.mod_eq_of_lt (show 2 ^ n-1<2 ^ 64 by omega),Nat.and_two_pow_sub_one_eq_mod]
 rw [e,wu]
 have h3:a % 2 ^ n≤a:=Nat.mod_le _ _
 rw [Nat.mod_eq_of_lt (by omega)]
theorem orI_sum{a b n:Nat}(hn:n≤64)(hb:b<2 ^ n)(ha:2 ^ n*a<18446744073709551616):orI .u64 ((2 ^ n*a:Nat):Int) ((b:Nat):Int)=((2 ^ n*a+b:Nat):Int):=by
 unfold orI
 have h2:2 ^ n≤2 ^ 64:=Nat.pow_le_pow_right (by decide) hn
 have e:(BitVec.ofInt IntKind.u64.bits ((2 ^ n*a:Nat):Int) ||| BitVec.ofInt IntKind.u64.bits ((b:Nat):Int)).toNat=2 ^ n*a+b:=by
  show (BitVec.ofInt 64 ((2 ^ n*a:Nat):Int) ||| BitVec.ofInt 64 ((b:Nat):Int)).toNat=2 ^ n*a+b
  rw [BitVec.ofInt_natCast,BitVec.ofInt_natCast,BitVec.toNat_or,BitVec.toNat_ofNat,BitVec.toNat_ofNat,Nat.mod_eq_of_lt (show 2 ^ n*a<2 ^ 64 from ha),Nat.mod_eq_of_lt (show b<2 ^ 64 by omega),Nat.two_pow_add_eq_or_of_lt hb]
 have hlt:2 ^ n*a+b<18446744073709551616:=by
  have:=(BitVec.ofInt IntKind.u64.bits ((2 ^ n*a:Nat):Int) ||| BitVec.ofInt IntKind.u64.bits ((b:Nat):Int)).isLt
  rw [e] at this
  exact this
 rw [e,wu,Nat.mod_eq_of_lt hlt]
theorem mul64_law{a b x0 x1 y0 y1:Nat}(ha:a<18446744073709551616)(hb:b<18446744073709551616)(h1:x0=a % 4294967296)(h2:x1=a / 4294967296)(h3:y0=b % 4294967296)(h4:y1=b / 4294967296):
 (x1*y1+(x1*y0+x0*y0 % 18446744073709551616 / 4294967296) / 4294967296+((x1*y0+x0*y0 % 18446744073709551616 / 4294967296) % 4294967296+x0*y1) / 4294967296)=a*b / 18446744073709551616 ∧
 x0*y0≤18446744065119617025∧x1*y0≤18446744065119617025∧x0*y1≤18446744065119617025∧x1*y1≤18446744065119617025:=by
 have b1:x0*y0≤4294967295*4294967295:=Nat.mul_le_mul (by omega) (by omega)
 have b2:x1*y0≤4294967295*4294967295:=Nat.mul_le_mul (by omega) (by omega)
 have b3:x0*y1≤4294967295*4294967295:=Nat.mul_le_mul (by omega) (by omega)
 have b4:x1*y1≤4294967295*4294967295:=Nat.mul_le_mul (by omega) (by omega)
 have ea:a=x1*4294967296+x0:=by omega
 have eb:b=y1*4294967296+y0:=by omega
 have e:a*b=x1*y1*18446744073709551616+(x1*y0+x0*y1)*4294967296+x0*y0:=by rw [ea,eb];grind
 rw [e]
 generalize x0*y0=p at *
 generalize x1*y0=q at *
 generalize x0*y1=r at *
 generalize x1*y1=s at *
 exact ⟨by omega,by omega,by omega,by omega,by omega⟩
theorem andI_nat(a:Nat){n:Nat}(hn:n≤64):andI .u64 ((a:Nat):Int) ((2 ^ n-1:Nat):Int)=((a % 2 ^ n:Nat):Int):=by
 have e:andI .u64 ((a:Nat):Int) ((2 ^ n-1:Nat):Int)=andI .u64 ((a % 18446744073709551616:Nat):Int) ((2 ^ n-1:Nat):Int):=by
  unfold andI
  have:BitVec.ofInt IntKind.u64.bits ((a:Nat):Int)=BitVec.ofInt IntKind.u64.bits ((a % 18446744073709551616:Nat):Int):=by
   show BitVec.ofInt 64 ((a:Nat):Int)=BitVec.ofInt 64 ((a % 18446744073709551616:Nat):Int)
   rw [BitVec.ofInt_natCast,BitVec.ofInt_natCast]
   apply BitVec.eq_of_toNat_eq
   simp
  rw [this]
 rw [e,andI_mask hn (Nat.mod_lt _ (by decide)),Nat.mod_mod_of_dvd _ (Nat.pow_dvd_pow 2 hn:2 ^ n ∣ 2 ^ 64)]
theorem andI32(a:Nat):andI .u64 ((a:Nat):Int) 4294967295=((a % 4294967296:Nat):Int):=andI_nat a (n:=32) (by decide)
theorem andI16(a:Nat):andI .u64 ((a:Nat):Int) 65535=((a % 65536:Nat):Int):=andI_nat a (n:=16) (by decide)
theorem e32:(2:Int) ^ 32=((4294967296:Nat):Int):=rfl
theorem e16:(2:Int) ^ 16=((65536:Nat):Int):=rfl
theorem e48:(2:Int) ^ 48=((281474976710656:Nat):Int):=rfl
theorem iE2{k k':IntKind}{x x' y y':Int}(h:x=x')(h':y=y'):packA [AV.c (Cell.v (Value.int k x)),AV.c (Cell.v (Value.int k' y))]=AV.tup [AV.int k x',AV.int k' y']:=by rw [h,h'];rfl
theorem ibE{k:IntKind}{x x':Int}{y y':Bool}(h:x=x')(h':y=y'):packA [AV.c (Cell.v (Value.int k x)),AV.c (Cell.v (Value.bool y))]=AV.tup [AV.int k x',AV.bool y']:=by rw [h,h'];rfl
def scP(x y:Int):Nat:=x.natAbs*y.natAbs
def scQ(x y:Int):Int × Int :=
 let q:Int:=(scP x y / 65536:Nat)
 let u:Int:=if scP x y % 65536=0 then q else q+1
 if (decide (x<0) != decide (y<0))=true then (-u,-q) else (q,u)
def scI(x y:Int):Int × Int × Bool :=
 if 1208925819614629174706176≤scP x y∨2305843009213693952<scP x y / 65536 then (0,0,false)
 else ((scQ x y).1,(scQ x y).2,decide (-2305843009213693952≤(scQ x y).1∧(scQ x y).2≤2305843009213693952))
theorem sc_fin{x y d u:Int}{o:Bool}(h:scI x y=(d,u,o)):packA [AV.c (Cell.v (Value.int .i64 d)),AV.c (Cell.v (Value.int .i64 u)),AV.c (Cell.v (Value.bool o))]=AV.tup [AV.int .i64 (scI x y).1,AV.int .i64 (scI x y).2.1,AV.bool (scI x y).2.2]:=by rw [h];rfl
theorem sc_q{p:Nat}(h:p / 18446744073709551616 / 65536=0):orI .u64 (IntKind.u64.wrap (((p / 18446744073709551616:Nat):Int)*((281474976710656:Nat):Int))) ((p % 18446744073709551616 / 65536:Nat):Int)=((p / 65536:Nat):Int):=by
 rw [← Int.natCast_mul,wu,Nat.mod_eq_of_lt (by omega),Nat.mul_comm]
 have:=orI_sum (n:=48) (a:=p / 18446744073709551616) (b:=p % 18446744073709551616 / 65536) (by decide) (by omega) (by omega)
 have e:(2:Nat) ^ 48=281474976710656:=rfl
 rw [e] at this
 rw [this]
 congr 1;omega
theorem sc_big{x y:Int}(h:¬(((x.natAbs*y.natAbs / 18446744073709551616 / 65536:Nat):Int))=0):scI x y=(0,0,false):=if_pos (.inl (by unfold scP;generalize x.natAbs*y.natAbs=p at *;omega))
theorem sc_big2{x y:Int}(h:(((x.natAbs*y.natAbs / 65536:Nat):Int)) > 2305843009213693952):scI x y=(0,0,false):=if_pos (.inr (by unfold scP;generalize x.natAbs*y.natAbs=p at *;omega))
theorem sc_val{x y d u:Int}{o:Bool}(h1:(((x.natAbs*y.natAbs / 18446744073709551616 / 65536:Nat):Int))=0)(h2:¬(((x.natAbs*y.natAbs / 65536:Nat):Int)) > 2305843009213693952)
 (hd:d=(scQ x y).1) (hu:u=(scQ x y).2) (ho:o=decide (-2305843009213693952≤(scQ x y).1∧(scQ x y).2≤2305843009213693952)):scI x y=(d,u,o):=by
 subst hd hu ho
 exact if_neg (by unfold scP;generalize x.natAbs*y.natAbs=p at *;omega)
theorem scQ_eq{x y:Int}{s z:Bool}(hs:(decide (x<0) != decide (y<0))=s)(hz:decide (x.natAbs*y.natAbs % 65536=0)=z):
 scQ x y=(if s then (-(if z then ((x.natAbs*y.natAbs / 65536:Nat):Int) else ((x.natAbs*y.natAbs / 65536:Nat):Int)+1),-((x.natAbs*y.natAbs / 65536:Nat):Int)) else (((x.natAbs*y.natAbs / 65536:Nat):Int),if z then ((x.natAbs*y.natAbs / 65536:Nat):Int) else ((x.natAbs*y.natAbs / 65536:Nat):Int)+1)):=by
 unfold scQ scP
 rw [hs]
 subst hz
 simp only [decide_eq_true_eq]
theorem w1{q:Int}(h0:0≤q)(h:¬q > 2305843009213693952):IntKind.i64.wrap q=q:=wi64 (by omega) (by omega)
theorem w2{q:Int}(h0:0≤q)(h:¬q > 2305843009213693952):IntKind.i64.wrap (q+1)=q+1:=wi64 (by omega) (by omega)
theorem w3{q:Int}(h0:0≤q)(h:¬q > 2305843009213693952):IntKind.i64.wrap (0-q) = -q:=by rw [wi64 (by omega) (by omega)];omega
theorem w4{q:Int}(h0:0≤q)(h:¬q > 2305843009213693952):IntKind.i64.wrap (0-(q+1)) = -(q+1):=by rw [wi64 (by omega) (by omega)];omega
theorem sc_leaf{x y:Int}{s z o:Bool}{d u:Int}(h1:(((x.natAbs*y.natAbs / 18446744073709551616 / 65536:Nat):Int))=0)(h2:¬(((x.natAbs*y.natAbs / 65536:Nat):Int)) > 2305843009213693952)
 (hs:(decide (x<0) != decide (y<0))=s) (hz:decide (x.natAbs*y.natAbs % 65536=0)=z) (hd:d=(if s then -(if z then ((x.natAbs*y.natAbs / 65536:Nat):Int) else ((x.natAbs*y.natAbs / 65536:Nat):Int)+1) else ((x.natAbs*y.natAbs / 65536:Nat):Int)))
 (hu:u=(if s then -((x.natAbs*y.natAbs / 65536:Nat):Int) else (if z then ((x.natAbs*y.natAbs / 65536:Nat):Int) else ((x.natAbs*y.natAbs / 65536:Nat):Int)+1))) (ho:o=decide (-2305843009213693952≤d∧u≤2305843009213693952)) :
 packA [AV.c (Cell.v (Value.int .i64 d)),AV.c (Cell.v (Value.int .i64 u)),AV.c (Cell.v (Value.bool o))]=AV.tup [AV.int .i64 (scI x y).1,AV.int .i64 (scI x y).2.1,AV.bool (scI x y).2.2]:=by
 have e1:d=(scQ x y).1:=by rw [hd,scQ_eq hs hz];cases s<;>rfl
 have e2:u=(scQ x y).2:=by rw [hu,scQ_eq hs hz];cases s<;>rfl
 exact sc_fin (sc_val h1 h2 e1 e2 (by rw [ho,e1,e2]))
@[reducible] def upR(a:Rat):Int:=-(-a).floor
theorem fl_up(a:Rat):a.floor≤upR a:=by
 unfold upR
 have h1:=Rat.floor_le (a:=a)
 have h2:=Rat.floor_le (a:=-a)
 have:((a.floor+(-a).floor:Int):Rat)≤0:=by rw [Rat.intCast_add];grind
 have:=Rat.intCast_le_intCast.1 (show ((a.floor+(-a).floor:Int):Rat)≤((0:Int):Rat) from this)
 omega
def fromR(a:Rat):Option (Int × Int):=mkI (a*((65536:Int):Rat)).floor (upR (a*((65536:Int):Rat)))
def addI(a b:Int × Int):Option (Int × Int):=mkI (a.1+b.1) (a.2+b.2)
theorem mkI_ok{l h:Int}(o:Option (Int × Int))(e:o=mkI l h)(hlh:l≤h):-2305843009213693952≤(o.getD (0,0)).1∧(o.getD (0,0)).1≤(o.getD (0,0)).2∧(o.getD (0,0)).2≤2305843009213693952:=by
 subst e
 unfold mkI
 split
 ·exact ⟨by simp;omega,by simp;omega,by simp;omega⟩
 ·exact ⟨by simp,by simp,by simp⟩
theorem fromR_ok(a:Rat):-2305843009213693952≤((fromR a).getD (0,0)).1∧((fromR a).getD (0,0)).1≤((fromR a).getD (0,0)).2∧((fromR a).getD (0,0)).2≤2305843009213693952:=mkI_ok _ rfl (fl_up _)
theorem ovE{l h:Int}{b:Bool}{o:Option (Int × Int)}(e1:l=(o.getD (0,0)).1)(e2:h=(o.getD (0,0)).2)(e3:b=o.isSome):
 packA [AV.agg [Cell.v (Value.int .i64 l),Cell.v (Value.int .i64 h)],AV.c (Cell.v (Value.bool b))]=Ov o:=by subst e1 e2 e3;rfl
theorem ovN{o:Option (Int × Int)}(e:o=none):packA [AV.agg [Cell.v (Value.int .i64 0),Cell.v (Value.int .i64 0)],AV.c (Cell.v (Value.bool false))]=Ov o:=by subst e;rfl
theorem sz_floor(a:Rat):sz a.floor≤rz a:=by
 refine Nat.le_trans (sz_mono ?_) (rz_num a)
 rw [← floor_of,Int.fdiv_eq_ediv_of_nonneg _ (by have:=den_pos a;omega)]
 exact Int.natAbs_ediv_le_natAbs _ _
theorem fr_lo{a:Rat}(h:¬(-9223372036854775808≤(a*((65536:Int):Rat)).floor∧(a*((65536:Int):Rat)).floor≤9223372036854775807)):fromR a=none :=
 mkI_no (by have:=fl_up (a*((65536:Int):Rat));omega)
theorem fr_hi{a:Rat}(h:¬(-9223372036854775808≤-(-(a*((65536:Int):Rat))).floor∧-(-(a*((65536:Int):Rat))).floor≤9223372036854775807)):fromR a=none :=
 mkI_no (by have:=fl_up (a*((65536:Int):Rat));unfold upR at *;omega)
theorem szl(n:Int)(h1 : -9223372036854775808≤n)(h2:n≤9223372036854775807):sz n≤3:=sz_64 h1 h2
theorem rz_k:rz ((65536:Int):Rat)≤4:=by have:=rz_int 65536;have:=sz_64 (n:=65536) (by omega) (by omega);omega
theorem rt_fold{l:Int}:List.foldl (λx y=>if y > x then y else x) l [0]=max l 0:=by
 show (if 0 > l then 0 else l)=max l 0
 split<;>omega
def rt(n:Int):Int:=if n*65536<0 then 0 else (isq (n*65536).natAbs:Nat)
theorem rt_if(n:Int):(if n*65536<0 then 0 else ((isq (n*65536).natAbs:Nat):Int))=rt n:=rfl
def rtU(n:Int):Int:=if rt n*rt n=n*65536 then rt n else rt n+1
theorem rt_ok{n:Int}(h:0≤n):0≤rt n∧rt n*rt n≤n*65536∧n*65536<(rt n+1)*(rt n+1):=by
 have ⟨h1,h2⟩:=isq_ok (n*65536).natAbs
 have e:(((n*65536).natAbs:Nat):Int)=n*65536:=by omega
 unfold rt
 rw [if_neg (by omega)]
 refine ⟨by omega, ?_, ?_⟩
 ·have:=Int.ofNat_le.2 h1;rw [Int.natCast_mul] at this;omega
 ·have:=Int.ofNat_lt.2 h2;rw [Int.natCast_mul,Int.natCast_add] at this;simpa [e] using this
theorem rt_lim{n:Int}(h:0≤n)(h2:n≤2305843009213693952):0≤rt n∧rt n≤549755813888:=by
 have ⟨h0,h1,_⟩:=rt_ok h
 refine ⟨h0, ?_⟩
 apply Decidable.byContradiction
 intro hc
 have:549755813889*549755813889≤rt n*rt n:=Int.mul_le_mul (by omega) (by omega) (by decide) h0
 omega
theorem rtU_ok{n:Int}(h:0≤n):rt n≤rtU n∧rtU n≤rt n+1∧n*65536≤rtU n*rtU n:=by
 have ⟨h0,h1,h2⟩:=rt_ok h
 unfold rtU
 split
 ·omega
 ·refine ⟨by omega,by omega,by omega⟩
def sqrtI(a:Int × Int):Option (Int × Int):=if a.2<0 then none else mkI (rt (max a.1 0)) (rtU a.2)
theorem rt_mono{l h:Int}(h0:0≤l)(h1:l≤h):rt l≤rt h:=by
 have ⟨a0,a1,a2⟩:=rt_ok h0
 have ⟨b0,b1,b2⟩:=rt_ok (Int.le_trans h0 h1)
 apply Decidable.byContradiction
 intro hc
 have:(rt h+1)*(rt h+1)≤rt l*rt l:=Int.mul_le_mul (by omega) (by omega) (by omega) a0
 omega
theorem rt_ex{l h:Int}(h0:¬h<0)(e:rt h*rt h=h*65536):Ov (mkI (rt (max l 0)) (rt h))=Ov (sqrtI (l,h)):=by
 unfold sqrtI rtU;rw [if_neg h0,if_pos e]
theorem rt_up{l h:Int}(h0:¬h<0)(e:¬rt h*rt h=h*65536):Ov (mkI (rt (max l 0)) (rt h+1))=Ov (sqrtI (l,h)):=by
 unfold sqrtI rtU;rw [if_neg h0,if_neg e]
end Go.Sw
