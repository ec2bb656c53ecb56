import Derived.Lib.ItoaLen
import Derived.Test.YtlfmlodanoolhaaGreatDoorE48
import Derived.Test.YtlfmlodanoolhaaGreatDoorE47
set_option linter.all false
set_option maxRecDepth 200000
set_option maxHeartbeats 32000000
namespace Go.Proofs.YtlfmlodanoolhaaGreatDoor
open Go Go.RowKit Go.Proofs.Tryz
attribute [local go_sem] z0f
theorem TabP.ext{w w':World}(h:TabP w)(hx:Ext w w'):TabP w':=by
 unfold TabP Lib.TabIs World.var? at h⊢
 cases hg : Tryz.prog.globalNamed "internal/strconv.uint64pow10" with
 |none=>rw[hg] at h;cases h
 |some g=>
  rw[hg] at h;simp only[Option.bind_some] at h⊢;have hlt:g<w.heap.size:=by
   rcases Nat.lt_or_ge g w.heap.size with hl|hl
   ·exact hl
   ·rw[Array.getElem?_eq_none hl] at h;cases h
  rw[hx.heap hlt];exact h
theorem k1b(v:Int)(h0:0≤v)(h1:v≤2147483647):(k1c v).size≤21:=by
 have:=Lib.itoa_length_le v (by omega) (by omega);show(Lib.itoa v).toArray.size≤21;simpa using this
structure LmI(W0 w0:World)(B N0 mb sb mp gm gs gx:Nat)(vf:Value)(t:Itm)(v3 v4 v5 v6 v7 v8:Value)(s:Sc)(a:Mk)(w:World):Prop where
 ec:EC W0 B N0 mb sb mp vf a s w
 fr:FrI N0 mb sb mp w0 w
 bm:Blk w gm 97 [.pointer (some ⟨mb,0,none⟩)]
 bs:Blk w gs 100 [.pointer (some ⟨sb,0,none⟩)]
 bx:Blk w gx 37 [.int .i64 t.op,.string t.name,.string t.of,v3,v4,v5,v6,v7,v8]
theorem ScI.frN{N0 mb sb mp g gm:Nat}{ve:Value}{s:Sc}{w w':World}(h:ScI w sb mp ve s)(hf:FrI N0 mb g gm w w')(hk:Kp w w')(hm:Tag w mb 99)(h1:sb≠g)(h2:sb≠gm)(h3:mp≠g)(h4:mp≠gm):ScI w' sb mp ve s:=
 ⟨hf.blk h.blk ⟨by decide,by decide,by decide⟩ (fun e=>absurd (h.blk.tag.one (e▸hm)) (by decide)) h1 h2,h.env.keep (.inr (.inr rfl)) hk (fun _ _ _ h=>h),hf.map h.map (fun e=>h.map.noTag (e▸hm)) h3 h4⟩
theorem Good.more{l l':List Sg}{s:Sc}(h:Good l s)(hl:l.length≤l'.length)(hw:∀g,g∈l'→1≤g.w∧g.w≤64):Good l' s:=
 ⟨fun n a ha=>by have:=h.at_ n a ha;omega,hw,h.env,h.const⟩
def paF(W:World)(s:Sc)(px:ByteArray)(vals:List Value)(i:Nat)(v:Value)(w:World):Prop:=
 if i=10 then∃b g ve,v=.pointer (some ⟨b,0,none⟩)∧W.heap.size≤b∧W.heap.size≤g∧ScI w b g ve ⟨s.env,s.sigs,s.path++px⟩ else v=vals.getD i undef
theorem k6o{W:World}{s:Sc}{px:ByteArray}{vals:List Value}{i:Nat}{v:Value}{w w':World}(h:paF W s px vals i v w)(hx:Ext w w'):paF W s px vals i v w':=by
 unfold paF at h⊢;split
 ·rename_i hi;rw[if_pos hi] at h;obtain⟨b,g,ve,h1,h2,h3,h4⟩:=h;exact⟨b,g,ve,h1,h2,h3,h4.ext hx⟩
 ·rename_i hi;rw[if_neg hi] at h;exact h
def paC(env:List (ByteArray×Int))(gm:Nat)(p:ByteArray)(vals:List Value)(i:Nat)(v:Value)(w:World):Prop:=
 if i=7 then∃ve,v=.agg #[ve,.map (some gm),.string p]∧SlT 85 RNm w 2 env ve else v=vals.getD i undef
theorem j1i{env:List (ByteArray×Int)}{gm:Nat}{p:ByteArray}{vals:List Value}{i:Nat}{v:Value}{w w':World}(h:paC env gm p vals i v w)(hx:Ext w w'):paC env gm p vals i v w':=by
 unfold paC at h⊢;split
 ·rename_i hi;rw[if_pos hi] at h;obtain⟨ve,h1,h2⟩:=h;exact⟨ve,h1,h2.keep (.inr (.inr rfl)) hx.kp (fun _ _ _ h=>h)⟩
 ·rename_i hi;rw[if_neg hi] at h;exact h
theorem j9s(W0 w0:World)(B N0 mb sb mp gm gs gx:Nat)(vf:Value)(inst:Itm→Sc→Mk→Rs Mk)(hi:y0e inst)(k:Nat)(t:Itm)(v3 v4 v5 v6 v7 v8:Value)(s:Sc)(hgm:w0.heap.size≤gm)(hgs:w0.heap.size≤gs)(hgx:w0.heap.size≤gx)
 (hw0:mb<w0.heap.size∧sb<w0.heap.size∧mp<w0.heap.size)
 (hl:q0w W0 B N0 mb vf inst k t.l) (hS:Sl (RI W0 B) W0 B 9 t.l v5) (o3:v3.oneCell'=true) (o4:v4.oneCell'=true) (o6:v6.oneCell'=true) (o7:v7.oneCell'=true) (o8:v8.oneCell'=true)
 (hnm:t.name.size≤64) (hof:t.of.size≤64) (hln:s.env.length+z0i t≤1000000) (hph:s.path.size+100*(k*70000+z0i t)≤1000000000)
 (v:Int) (hv:z1j v) (a:Mk) (w:World) (hJ:LmI W0 w0 B N0 mb sb mp gm gs gx vf t v3 v4 v5 v6 v7 v8 s a w):
 Calls Tryz.prog 113 (#[.int .i64 v]++#[.pointer (some ⟨gs,0,none⟩),.pointer (some ⟨gx,0,none⟩),.pointer (some ⟨gm,0,none⟩)]) w
  (RunsP (do let z←z1r inst t.l (s.pass t.name t.of v) a;return z.2) (fun a' u w'=>u=z1w∧LmI W0 w0 B N0 mb sb mp gm gs gx vf t v3 v4 v5 v6 v7 v8 s a' w') (FrI N0 mb sb mp w0)):=by
 have HJ:=Hd hJ;have HL:=Hd hl;have HS:=Hd hS;have HV:=Hd hv;have o5:=hS.oneCell;obtain⟨hv0,hv1⟩:=hv;have hds:=k1b v hv0 hv1;have hsz:=z0r t;obtain⟨hmw,hsw,hpw,hsm,hpm,hps,hNm⟩:=hJ.ec.mlt;obtain⟨vs,vp,vc,ve,hmk0,hsc0⟩:=hJ.ec.ex;have HMK:=Hd hmk0;have HSC:=Hd hsc0;have HG:=Hd hJ.ec.gd.env;have oe:=hsc0.env.oneCell;obtain⟨px,hpx⟩:∃px,px=t.name++tOpen++k1c v++tShut:=⟨_,rfl⟩;have hs3:px.size=t.name.size+1+(k1c v).size+2:=by rw[hpx,ByteArray.size_append,ByteArray.size_append,ByteArray.size_append];rfl
 have HPX:=Hd hpx;have n1:¬(9223372036854775807<t.name.size+1):=by omega
 have n2:¬(9223372036854775807<t.name.size+1+(k1c v).size):=by omega
 have n3:¬(9223372036854775807<t.name.size+1+(k1c v).size+2):=by omega
 have hpl:s.path.size≤1000000000:=by omega
 have hpl2:px.size≤1000000000:=by omega
 have KI:=Hd (fun(w':World) (hx:Ext w w')=>k3v v hv0 (by omega) w' (hJ.ec.tab.ext (hJ.ec.cx.ext.trans hx)));have KW:=Hd (fun(w':World) (hx:Ext w w')=>j0v s ve mp px w' ((hsc0.ext hx).env) (hsc0.ext hx).map HG.o hpl hpl2);obtain⟨b0,b1,b2⟩:=hsc0.blk.later3;obtain⟨x0,x1,x2,x3,x4,x5,x6,x7,x8⟩:=hJ.bx.later9;have y0:=cellAt (hJ.bs.cell 0);have y1:=cellAt (hJ.bm.cell 0);have fo1:∀u:ByteArray,u++(⟨#[91]⟩:ByteArray)=u++tOpen:=fun _=>rfl
 have fo2:∀u:ByteArray,u++(⟨#[93,46]⟩:ByteArray)=u++tShut:=fun _=>rfl
 have fz1:tOpen.size=1:=rfl;have fz2:tShut.size=2:=rfl;have HN:=Hd hs3;clear hmk0 hsc0 hJ hl hS hs3 hpx;go_enter func113,ntmps113;go_wp2_with fail
 refine z0m 11 (W:=w) (Ext) (paF w s px [.pointer (some ⟨sb,0,none⟩),.pointer (some ⟨sb,0,none⟩),.agg #[ve,.map (some mp),.string s.path],.pointer (some ⟨gx,1,none⟩),.string t.name,.string (t.name++tOpen),.int .i64 v,.string (k1c v),.string (t.name++tOpen++k1c v),.string (t.name++tOpen++k1c v++tShut),undef]) (fun _ _=>False) (fun _=>true) (by kernel_rfl) (z0s) (by kernel_rfl) (by kernel_rfl) ?_ (y1g _) (fun i v w w' h hx=>k6o h hx) ?_ (fun A ch w hd hp=>hp.elim) ?_
 ·exact⟨rfl,rfl,rfl,rfl,rfl,rfl,rfl,rfl,rfl,rfl,rfl,trivial⟩
 ·refine⟨?_,?_,?_,?_,?_,?_,?_,?_,?_,?_,?_,trivial⟩;rotate_left 7
  ·intro A wa hxa hd h0;obtain⟨ea,rfl⟩:=y1h hxa;have q6:=z0d hd 6 12 (by kernel_rfl) rfl;simp[paF] at q6;clear hd h0;go_simp;refine(KI.o ea.w ea.ext).mono ?_;rintro _ wk ⟨rfl,hx⟩;go_simp;first|exact⟨_,rfl,hx,rfl⟩|exact⟨hx,rfl⟩|exact⟨_,rfl,rfl⟩|exact hx|exact rfl
  rotate_left 2
  ·intro A wa hxa hd h0;obtain⟨ea,rfl⟩:=y1h hxa;have q2:=z0d hd 2 8 (by kernel_rfl) rfl;simp[paF] at q2;have q9:=z0d hd 9 15 (by kernel_rfl) rfl;simp[paF] at q9;clear hd h0;go_simp;rw[←HPX.o];refine(KW.o ea.w ea.ext).mono ?_;rintro _ wk ⟨b,g,ve',rfl,h1,h2,h3,hx⟩;have hz:=ea.ext.size;have HB:=Hd (y1x (y1k hz h1) (y1x (y1k hz h2) h3));clear h1 h2 h3;go_simp;first|exact⟨_,rfl,hx,b,g,ve',rfl,HB.o⟩|exact⟨hx,b,g,ve',rfl,HB.o⟩|exact⟨_,rfl,b,g,ve',rfl,HB.o⟩
  all_goals
   intro A wa hxa hd h0;obtain⟨ea,rfl⟩:=y1h hxa;try (have q0:=z0d hd 0 6 (by decide) rfl;simp[paF] at q0)
   try (have q1:=z0d hd 1 7 (by decide) rfl;simp[paF] at q1)
   try (have q3:=z0d hd 3 9 (by decide) rfl;simp[paF] at q3)
   try (have q4:=z0d hd 4 10 (by decide) rfl;simp[paF] at q4)
   try (have q5:=z0d hd 5 11 (by decide) rfl;simp[paF] at q5)
   try (have q7:=z0d hd 7 13 (by decide) rfl;simp[paF] at q7)
   try (have q8:=z0d hd 8 14 (by decide) rfl;simp[paF] at q8)
   have r1:=z0c h0 1 (by kernel_rfl);simp at r1;have r2:=z0c h0 2 (by kernel_rfl);simp at r2;have r0:=z0c h0 0 (by kernel_rfl);simp at r0;clear hd h0;go_simp;first|exact⟨_,rfl,y1g _,rfl⟩|exact⟨y1g _,rfl⟩|exact rfl|exact⟨_,rfl,rfl⟩|exact y1g _
 ·intro A wa hk;obtain⟨f,rfl,hxa,hdn,hrs⟩:=hk.fin (n:=31) rfl;obtain⟨ea,rfl⟩:=y1h hxa;have k0:=hrs 0 (by kernel_rfl);have k1:=hrs 1 (by kernel_rfl);have k2:=hrs 2 (by kernel_rfl);have k3:=hrs 3 (by kernel_rfl);obtain⟨b,g,ve',k16,hbw,hgw,hsc⟩:=hdn 10 16 rfl rfl;clear hdn hrs;simp at k0 k1 k2 k3;simp only[List.drop_succ_cons,List.drop_zero];simp[List.range,List.range.loop,k0,k1,k2,k3,k16];clear k0 k1 k2 k3 k16;have XA:=Hd ea.ext;clear b0 b1 b2 x0 x1 x2 x3 x4 x5 x6 x7 x8 y0 y1 KI KW;obtain⟨W1,hW1⟩:∃W1,W1=ea.w:=⟨_,rfl⟩;rw[←hW1] at hsc;rw[←hW1];have XW:=Hd (show Ext w W1 from hW1▸XA.o);clear hW1 XA;obtain⟨b0,b1,b2⟩:=hsc.blk.later3;have oe':=hsc.env.oneCell;obtain⟨x0,x1,x2,x3,x4,x5,x6,x7,x8⟩:=(HJ.o.bx.ext XW.o).later9;have y1:=cellAt ((HJ.o.bm.ext XW.o).cell 0);have HSN:=Hd hsc;have KC:=Hd (fun(w':World) (hx:Ext W1 w')=>z4r ⟨s.env,s.sigs,s.path++px⟩ ve' (.map (some g)) t.of v w' ((HSN.o.ext hx).env) rfl HG.o);clear hsc;go_wp2_with fail
  refine z0m 8 (W:=W1) (Ext) (paC (s.env++[(t.of,v)]) g (s.path++px) [.pointer (some ⟨b,0,none⟩),.pointer (some ⟨b,0,none⟩),.pointer (some ⟨b,0,none⟩),.agg #[ve',.map (some g),.string (s.path++px)],.pointer (some ⟨gx,2,none⟩),.string t.of,.int .i64 v,undef]) (fun _ _=>False) (fun _=>true) (by kernel_rfl) (z0s) (by kernel_rfl) (by kernel_rfl) ?_ (y1g _) (fun i v w w' h hx=>j1i h hx) ?_ (fun A ch w hd hp=>hp.elim) ?_
  ·exact⟨rfl,rfl,rfl,rfl,rfl,rfl,rfl,rfl,trivial⟩
  ·refine⟨?_,?_,?_,?_,?_,?_,?_,?_,trivial⟩;rotate_left 7
   ·intro A wa hxa hd h0;obtain⟨ea,rfl⟩:=y1h hxa;have q3:=z0d hd 3 20 (by kernel_rfl) rfl;simp[paC] at q3;have q5:=z0d hd 5 22 (by kernel_rfl) rfl;simp[paC] at q5;have q6:=z0d hd 6 23 (by kernel_rfl) rfl;simp[paC] at q6;clear hd h0;go_simp;refine(KC.o ea.w ea.ext).mono ?_;rintro e wk ⟨vk,rfl,hse,hxk⟩;have ok':=hse.oneCell;go_simp;first|exact⟨_,rfl,hxk,vk,rfl,hse⟩|exact⟨hxk,vk,rfl,hse⟩|exact⟨_,rfl,vk,rfl,hse⟩
   all_goals
    intro A wa hxa hd h0;obtain⟨ea,rfl⟩:=y1h hxa;try (have q1:=z0d hd 1 18 (by decide) rfl;simp[paC] at q1)
    try (have q2:=z0d hd 2 19 (by decide) rfl;simp[paC] at q2)
    try (have q4:=z0d hd 4 21 (by decide) rfl;simp[paC] at q4)
    have r5:=z0c h0 5 (by kernel_rfl);simp at r5;have r2:=z0c h0 2 (by kernel_rfl);simp at r2;have r0:=z0c h0 0 (by kernel_rfl);simp at r0;clear hd h0;go_simp;first|exact⟨_,rfl,y1g _,rfl⟩|exact⟨y1g _,rfl⟩|exact rfl|exact⟨_,rfl,rfl⟩|exact y1g _
  ·intro A wa hk;obtain⟨f,rfl,hxa,hdn,hrs⟩:=hk.fin (n:=31) rfl;obtain⟨ea,rfl⟩:=y1h hxa;have k0:=hrs 0 (by kernel_rfl);have k1:=hrs 1 (by kernel_rfl);have k2:=hrs 2 (by kernel_rfl);have k3:=hrs 3 (by kernel_rfl);have k5:=hrs 5 (by kernel_rfl);have k17:f 17=.pointer (some ⟨b,0,none⟩):=hdn 0 17 rfl rfl;obtain⟨vk,k24,hk3⟩:=hdn 7 24 rfl rfl;clear hdn hrs;simp at k0 k1 k2 k3 k5;simp only[List.drop_succ_cons,List.drop_zero];simp[List.range,List.range.loop,k0,k1,k2,k3,k5,k17,k24];clear k0 k1 k2 k3 k5 k17 k24;have HK3:=Hd hk3;have b6:=HSN.o.blk.ext ea.ext;have ok':=hk3.oneCell;obtain⟨j0,j1,j2⟩:=b6.free3;obtain⟨i0,i1,i2⟩:=b6.get3;obtain⟨W9,hW9⟩:∃W9,W9=(((ea.w.setCell ⟨b,0,none⟩ vk).setCell ⟨b,1,none⟩ (.map (some g))).setCell ⟨b,2,none⟩ (.string (s.path++px))):=⟨_,rfl⟩;have hV9:=hW9.symm;have b9:Blk W9 b 126 [vk,.map (some g),.string (s.path++px)]:=by rw[hW9];exact b6.store3 _ _ _
   have hc9:Chg (fun k=>k=b) ea.w W9:=by rw[hW9];exact z8z _ _ _ _ _
   have XB:=Hd (XW.o.trans ea.ext);have hsw:=XB.o.size;have hEI:EC W0 B N0 mb b g vf a ⟨s.env,s.sigs,s.path++px⟩ ea.w:=by
    have he:=HJ.o.ec;have hz:=he.cx.ext.size;exact⟨⟨vs,vp,vc,ve',HMK.o.ext XB.o,HSN.o.ext ea.ext⟩,he.cx.later XB.o,⟨he.gd.at_,he.gd.w,he.gd.env,he.gd.const⟩,he.inv,he.lo,by omega,by omega,he.tab⟩
   have HE9:=Hd (hEI.con (y1g _) hc9 b9 HK3.o HV.o (by show s.env.length+1≤1000000;omega));have HP9:=Hd (show(Sc.con ⟨s.env,s.sigs,s.path++px⟩ t.of v)=s.pass t.name t.of v by rw[HPX.o];rfl);rw[HP9.o] at HE9;have HX9:=Hd ((hc9.blk ((HJ.o.bx).ext XB.o) (show¬gx=b by have:=HJ.o.bx.lt;omega)));have HM9:=Hd ((hc9.blk ((HJ.o.bm).ext XB.o) (show¬gm=b by have:=HJ.o.bm.lt;omega)));obtain⟨u0,u1,u2,u3,u4,u5,u6,u7,u8⟩:=HX9.o.get9;have u9:=HM9.o.cell 0;simp only[List.getElem?_cons_zero] at u9;have HTB:=Hd b9.tag;have KT:=Hd (HL.o b g a (s.pass t.name t.of v) W9 v5 HE9.o.1 (by show(s.env++[(t.of,v)]).length+_≤_;rw[List.length_append];simp only[List.length_cons,List.length_nil];omega) (by show(s.path++(t.name++tOpen++k1c v++tShut)).size+_≤_;rw[←HPX.o,ByteArray.size_append];have:=HN.o;omega) HS.o);have HF9:=Hd ((y1z (N0:=N0) (mb:=mb) (sb:=b) (mp:=g) XB.o).trans HE9.o.2);clear hc9 hW9 b9 b6 hEI hk3 x0 x1 x2 x3 x4 x5 x6 x7 x8 y1 b0 b1 b2 KC;go_wp2_with fail
   go_at_call 39;refine KT.o.mono ?_;rintro e w6 (⟨y,u,hr,rfl,hu,hec,hfr,hel,hpe⟩|⟨c,hr,rfl,hfr⟩);rotate_left
   ·exact⟨rfl,.no (by rw[hr];rfl) (HJ.o.fr.trans ((HF9.o.trans hfr).fresh w (FrI.refl _ _ _ _ _) (.inl hbw) (.inl hgw)))⟩
   subst hu;have hF:=(HF9.o.trans hfr);have hF2:FrI N0 mb sb mp w w6:=hF.fresh w (FrI.refl _ _ _ _ _) (.inl hbw) (.inl hgw);have hkp:Kp w w6:=hF.kp HMK.o.blk.tag (fun e=>absurd e (by omega)) (fun e=>absurd e (by omega));have hmo:=z3n (inst:=inst) t.l (fun y _=>q1t hi y) _ _ _ hr;have HZ:=Hd (show LmI W0 w0 B N0 mb sb mp gm gs gx vf t v3 v4 v5 v6 v7 v8 s y.2 w6 from by
    obtain⟨us,up,uc,ue,hk,hs⟩:=hec.ex
    exact⟨HJ.o.ec.frI hF2 hk (HSC.o.frN hF hkp HMK.o.blk.tag (by omega) (by omega) (by omega) (by omega)) (HJ.o.ec.gd.more hmo hec.gd.w) hec.inv,HJ.o.fr.trans hF2,
     hF2.blk HJ.o.bm ⟨by decide,by decide,by decide⟩ (by omega) (by omega) (by omega),hF2.blk HJ.o.bs ⟨by decide,by decide,by decide⟩ (by omega) (by omega) (by omega),hF2.blk HJ.o.bx ⟨by decide,by decide,by decide⟩ (by omega) (by omega) (by omega)⟩)
   have HR:=Hd (show(do let z←z1r inst t.l (s.pass t.name t.of v) a;return z.2:Rs Mk)=.ok y.2 by rw[hr];rfl);clear hr hec hfr hF hF2 hkp hmo;go_wp2_with fail
   refine bodyPost_ret (v:=z1w) ?_ rfl (.ok HR.o ⟨rfl,HZ.o⟩);simp[results,results113,go_sem,z1w]
theorem j5j{W0 w0:World}{B N0 mb sb mp gm gs gx:Nat}{vf:Value}{t:Itm}{v3 v4 v5 v6 v7 v8:Value}{s:Sc}(hgm:w0.heap.size≤gm)(hgs:w0.heap.size≤gs)(hgx:w0.heap.size≤gx)(hmb:mb<w0.heap.size):PassI W0 B N0 mb sb mp s (LmI W0 w0 B N0 mb sb mp gm gs gx vf t v3 v4 v5 v6 v7 v8 s) id (fun _ m'=>m') (FrI N0 mb sb mp w0) where
 ctx a w hj:=by
  obtain⟨vs,vp,vc,ve,h⟩:=hj.ec.stc;exact⟨vf,vs,vp,vc,ve,h⟩
 ext a w w' hj hx:=⟨hj.ec.ext hx,hj.fr.trans (.of_ext hx),hj.bm.ext hx,hj.bs.ext hx,hj.bx.ext hx⟩
 cnt a w w' vf' vs' vp' vc' m' hj hk hk' hf hc:=by
  obtain⟨vs,vp,vc,ve,h⟩:=hj.ec.stc;obtain⟨rfl,rfl,rfl,rfl⟩:=h.mk_.one hk;exact⟨.of_stc hj.ec (.of_chg hf) (h.frS hf hk' hc) hc,hj.fr.trans (.of_chg hf),hf.blk hj.bm (show¬gm=mb by omega),hf.blk hj.bs (show¬gs=mb by omega),hf.blk hj.bx (show¬gx=mb by omega)⟩
 bad a w w' hj hf:=hj.fr.trans (.of_chg hf)
theorem j3f{body:Int→Mk→Rs Mk}:∀(n:Nat) (v:Int) (m:Mk),z9e (σ:=Mk) id (fun _ m'=>m') body n v m=j5c body n v m
 |0,v,m=>rfl
 |n+1,v,m=>by
  simp only[z9e,j5c,bind,Except.bind,id];cases z7a 1 m with
  |error e=>rfl
  |ok m1=>
   simp only[];cases body v m1 with
   |error e=>rfl
   |ok y=>exact j3f n (v+1) y
theorem q9b(W0:World)(B N0 mb:Nat)(vf:Value)(inst:Itm→Sc→Mk→Rs Mk)(k:Nat)(t:Itm)(hop:t.op=9)(hvx:∀y,y∈t.x→VX y)(h2:t.x.length=2)(hnm:t.name.size≤64)(hof:t.of.size≤64)(hi:y0e inst)(hl:q0w W0 B N0 mb vf inst k t.l):q2z W0 B N0 mb vf inst k t:=by
 intro sb mp m s w cs h hck hln hph hR;have H:=Hd h;have hb0:=h.inv.b0;have hb1:=h.inv.b1;have hsg:=h.inv.sg;have hpr:=h.inv.pr;have hc0:=h.inv.c0;have hc1:=h.inv.c1;obtain⟨hmw,hsw,hpw,hsm,hpm,hps,hNm⟩:=h.mlt;obtain⟨v3,v4,v5,v6,v7,v8,rfl,h3,h4,h5,h6,h7,h8⟩:=RI_iff.1 hR;have o3:=h3.oneCell;have o4:=h4.oneCell;have o5:=h5.oneCell;have o6:=h6.oneCell;have o7:=h7.oneCell;have o8:=h8.oneCell;have HX3:=Hd h3;have HX4:=Hd h4;have HX5:=Hd h5;have HX6:=Hd h6;have HRI:=Hd hR;obtain⟨W1,hW1,hx1,hb1'⟩:=z4w w (.pointer (some ⟨mb,0,none⟩)) 97;obtain⟨W2,hW2,hx2,hb2'⟩:=z4w W1 (.pointer (some ⟨sb,0,none⟩)) 100;obtain⟨W3,hW3,hx3,hb3'⟩:=q0y W2 (.int .i64 t.op) (.string t.name) (.string t.of) v3 v4 v5 v6 v7 v8 37;have hV1:=hW1.symm;have hV2:=hW2.symm;have s1:w.heap.size<W1.heap.size:=hb1'.lt;have s2:W1.heap.size<W2.heap.size:=hb2'.lt;have s3:W2.heap.size<W3.heap.size:=hb3'.lt;have BM:=Hd (hb1'.ext (hx2.trans hx3));have BS:=Hd (hb2'.ext hx3);have BX:=Hd hb3';have X3:=Hd (hx1.trans (hx2.trans hx3));have H3:=Hd (h.ext X3.o);obtain⟨e3,he3⟩:=y1h (W:=W3) (w:=W3) (y1g _);have hV3:=hW3.symm.trans he3;obtain⟨c0,c1,c2,c3,c4,c5,c6,c7,c8⟩:=BX.o.later9;have m0:=cellAt (BM.o.cell 0);have n0:=cellAt (BS.o.cell 0);have HW3:=Hd he3;clear he3 hW1 hW2 hW3 hx1 hx2 hx3 hb1' hb2' hb3' h h3 h4 h5 h6 h7 h8 hR;have HD:=Hd (show z1m inst t s m=(do let m2←(do let a←z1p s (xAt t.x 0);let b←z1p s (xAt t.x 1);z9e (σ:=Mk) id (fun _ m'=>m') (fun v m1=>do let z←z1r inst t.l (s.pass t.name t.of v) m1;return z.2) (b - a).toNat a m);return(s,m2)) by
  rw[q5v inst t s m hop];simp only[j3f,bind,Except.bind];cases z1p s (xAt t.x 0) with
  |error e=>rfl
  |ok a=>
   simp only[];cases z1p s (xAt t.x 1)<;>rfl)
 have hsx:z0e z0l t.x≤1000000000:=by have:=z0r t;omega
 have hbx:=BX.o;have HW:=Hd (y1x hmw (y1x hsw hpw));have K1:=Hd (fun(v:Int) (a:Mk) (wz:World) hv hj=>j9s W0 w B N0 mb sb mp w.heap.size W1.heap.size W2.heap.size vf inst hi k t v3 v4 v5 v6 v7 v8 s (y1j _) (by omega) (by omega) HW.o hl HX5.o o3 o4 o6 o7 o8 hnm hof hln hph v hv a wz hj);have hmf:=@hmf_ Tryz.prog
 have KP:=Hd (q5j W0 B N0 mb sb mp s (LmI W0 w B N0 mb sb mp w.heap.size W1.heap.size W2.heap.size vf t v3 v4 v5 v6 v7 v8 s) id (fun _ m'=>m') (FrI N0 mb sb mp w) (j5j (y1j _) (by omega) (by omega) hmw)
  (fun v a=>do let z←z1r inst t.l (s.pass t.name t.of v) a;return z.2) 113 #[.pointer (some ⟨W1.heap.size,0,none⟩),.pointer (some ⟨W2.heap.size,0,none⟩),.pointer (some ⟨w.heap.size,0,none⟩)] ⟨fun _ _=>by kernel_rfl⟩
  (fun v a wz hv hj=>K1.o v a wz hv hj)
  t.x v3 m e3.w ⟨H3.o.ext e3.ext,.of_ext (X3.o.trans e3.ext),BM.o.ext e3.ext,BS.o.ext e3.ext,hbx.ext e3.ext⟩ HX3.o h2 hsx hvx)
 clear hbx hnm hof hi hl hvx;rw[hop] at hV3 c0;rw[hop];go_enter func76,ntmps76;go_wp2_with fail
 go_at_call 112;refine KP.o.mono ?_;rintro e w9 (⟨z,u,hr,rfl,rfl,hj⟩|⟨c,hr,rfl,hfr⟩);rotate_left
 ·exact⟨rfl,.no (by rw[HD.o];simp only[bind,Except.bind] at hr⊢;rw[hr]) hfr⟩
 have HR:=Hd (show z1m inst t s m=.ok (s,z) by rw[HD.o];simp only[bind,Except.bind] at hr⊢;rw[hr];rfl);have HJ:=Hd hj;clear hr hj;go_wp2_with fail
 refine bodyPost_ret (v:=z1w) ?_ rfl (.ok HR.o ⟨rfl,HJ.o.ec,HJ.o.fr,Nat.le_add_right _ _,rfl⟩);simp[results,results76,go_sem,z1w]
def k1w(W0:World)(B N0 mb:Nat)(vf:Value)(inst:Itm→Sc→Mk→Rs Mk)(k:Nat)(t:Itm):Prop:=
 ∀(sb mp:Nat) (m:Mk) (s:Sc) (w:World) (cs:List Value),EC W0 B N0 mb sb mp vf m s w→s.path.size+100*(k*70000+z0i t)≤1000000000→RI W0 B t cs→
  z9b Tryz.prog 111 #[.pointer (some ⟨mb,0,none⟩),.pointer (some ⟨sb,0,none⟩),.agg cs.toArray] w (inst t s m) (fun m' v w'=>v=z1w∧EC W0 B N0 mb sb mp vf m' s w'∧FrI N0 mb sb mp w w') (FrI N0 mb sb mp w)
theorem q9c(W0:World)(B N0 mb:Nat)(vf:Value)(inst:Itm→Sc→Mk→Rs Mk)(k:Nat)(t:Itm)(hop:t.op=7)(hin:k1w W0 B N0 mb vf inst k t):q2z W0 B N0 mb vf inst k t:=by
 intro sb mp m s w cs h hck hln hph hR;have H:=Hd h;have hb0:=h.inv.b0;have hb1:=h.inv.b1;have hsg:=h.inv.sg;have hpr:=h.inv.pr;have hc0:=h.inv.c0;have hc1:=h.inv.c1;obtain⟨hmw,hsw,hpw,hsm,hpm,hps,hNm⟩:=h.mlt;obtain⟨v3,v4,v5,v6,v7,v8,rfl,h3,h4,h5,h6,h7,h8⟩:=RI_iff.1 hR;have o3:=h3.oneCell;have o4:=h4.oneCell;have o5:=h5.oneCell;have o6:=h6.oneCell;have o7:=h7.oneCell;have o8:=h8.oneCell;have HX3:=Hd h3;have HX4:=Hd h4;have HX5:=Hd h5;have HX6:=Hd h6;have HRI:=Hd hR;obtain⟨W1,hW1,hx1,hb1'⟩:=z4w w (.pointer (some ⟨mb,0,none⟩)) 97;obtain⟨W2,hW2,hx2,hb2'⟩:=z4w W1 (.pointer (some ⟨sb,0,none⟩)) 100;obtain⟨W3,hW3,hx3,hb3'⟩:=q0y W2 (.int .i64 t.op) (.string t.name) (.string t.of) v3 v4 v5 v6 v7 v8 37;have hV1:=hW1.symm;have hV2:=hW2.symm;have s1:w.heap.size<W1.heap.size:=hb1'.lt;have s2:W1.heap.size<W2.heap.size:=hb2'.lt;have s3:W2.heap.size<W3.heap.size:=hb3'.lt;have BM:=Hd (hb1'.ext (hx2.trans hx3));have BS:=Hd (hb2'.ext hx3);have BX:=Hd hb3';have X3:=Hd (hx1.trans (hx2.trans hx3));have H3:=Hd (h.ext X3.o);obtain⟨e3,he3⟩:=y1h (W:=W3) (w:=W3) (y1g _);have hV3:=hW3.symm.trans he3;obtain⟨c0,c1,c2,c3,c4,c5,c6,c7,c8⟩:=BX.o.later9;have m0:=cellAt (BM.o.cell 0);have n0:=cellAt (BS.o.cell 0);have HW3:=Hd he3;clear he3 hW1 hW2 hW3 hx1 hx2 hx3 hb1' hb2' hb3' h h3 h4 h5 h6 h7 h8 hR;have HD:=Hd (show z1m inst t s m=(do let m2←inst t s m;return(s,m2)) from q5w inst t s m hop);have KI:=Hd (hin sb mp m s e3.w _ (H3.o.ext e3.ext) hph HRI.o);rw[hop] at KI;clear hin;rw[hop] at hV3 c0;rw[hop];go_enter func76,ntmps76;go_wp2_with fail
 go_at_call 111;refine KI.o.mono ?_;rintro e w6 (⟨r,u,hr,rfl,hu,hec,hfr⟩|⟨c,hr,rfl,hfr⟩);rotate_left
 ·exact⟨rfl,.no (by rw[HD.o,hr];rfl) ((y1z (X3.o.trans e3.ext)).trans hfr)⟩
 subst hu;have HR:=Hd (show z1m inst t s m=.ok (s,r) by rw[HD.o,hr];rfl);have HE:=Hd (y1x hec ((y1z (N0:=N0) (mb:=mb) (sb:=sb) (mp:=mp) (X3.o.trans e3.ext)).trans hfr));clear hr hec hfr;go_wp2_with fail
 refine bodyPost_ret (v:=z1w) ?_ rfl (.ok HR.o ⟨rfl,HE.o.1,HE.o.2,Nat.le_add_right _ _,rfl⟩);simp[results,results76,go_sem,z1w]
theorem j3n(W0:World)(B N0 mb:Nat)(vf:Value)(inst:Itm→Sc→Mk→Rs Mk)(hi:y0e inst)(k:Nat)(Q:Itm→Prop)(hQl:∀t y,Q t→y∈t.l→Q y)(hQe:∀t y,Q t→y∈t.els→Q y)
 (hin:∀t,Q t→VI t→MayI t→t.op=7→k1w W0 B N0 mb vf inst k t):∀t:Itm,Q t→VI t→MayI t→q2z W0 B N0 mb vf inst k t:=by
 intro t;induction t using Itm.ind with
 |h t ih1 ih2=>
  intro hq hv hm;obtain⟨-,-,hvx,hvs,hvl,hve,-,-⟩:=VI_iff.1 hv;obtain⟨ho,hmx,hms,hml,hme,-,-⟩:=MayI_iff.1 hm;obtain⟨h1,h10,hnm,hof,hlen,htg,-,-,-,-⟩:=ho;have hn:t.name.size≤64:=by
   rcases hnm with⟨-,h⟩|⟨-,h⟩
   ·exact h.2.1
   ·omega
  have ho:t.of.size≤64:=by
   rcases hof with⟨-,h⟩|⟨-,h⟩
   ·exact h.2.1
   ·omega
  have hL:q0w W0 B N0 mb vf inst k t.l:=q0k W0 B N0 mb vf inst k t.l (fun y hy=>ih1 y hy (hQl t y hq hy) (hvl y hy) (hml y hy));have hE:q0w W0 B N0 mb vf inst k t.els:=q0k W0 B N0 mb vf inst k t.els (fun y hy=>ih2 y hy (hQe t y hq hy) (hve y hy) (hme y hy));unfold k1g at hlen;rcases(by omega:t.op=1∨t.op=2∨t.op=3∨t.op=4∨t.op=5∨t.op=6∨t.op=7∨t.op=8∨t.op=9∨t.op=10) with h|h|h|h|h|h|h|h|h|h
  ·exact q6x W0 B N0 mb vf inst k t h hvx (by rw[hlen,h];decide) hn
  ·exact q9a W0 B N0 mb vf inst k t h hvx (by rw[hlen,h];decide) hn
  ·exact j1r W0 B N0 mb vf inst k t h hvx (by rw[hlen,h];decide) hn
  ·exact q4y W0 B N0 mb vf inst k t h hvx (by rw[hlen,h];decide) hmx (fun y hy=>by
    intro hy34;have hy0:y∈t.x:=List.mem_of_mem_head? hy;have:=(MayX_iff.1 (hmx y hy0)).1.1;unfold z4u at this;omega)
  ·exact q9e W0 B N0 mb vf inst k t h hvs hms
  ·exact j1s W0 B N0 mb vf inst k t h hvs hms
  ·exact q9c W0 B N0 mb vf inst k t h (hin t hq hv hm h)
  ·exact j5s W0 B N0 mb vf inst k t h hvx (by rw[hlen,h];decide) hL hE
  ·exact q9b W0 B N0 mb vf inst k t h hvx (by rw[hlen,h];decide) hn ho hi hL
  ·exact q6y W0 B N0 mb vf inst k t h hvx (by rw[hlen,h];decide) hmx hn
theorem q9o:Enters Tryz.prog 152:=⟨fun _ _=>by kernel_rfl⟩
theorem q2o(c0 c1 c2 c3:Value)(o0:c0.oneCell'=true)(o1:c1.oneCell'=true)(o2:c2.oneCell'=true)(o3:c3.oneCell'=true)(w:World):
 Calls Tryz.prog 36 #[.agg #[c0,c1,c2,c3]] w fun e w'=>e=.returned (.func (.func 68) #[] #[.pointer (some ⟨w.heap.size,0,none⟩)])∧Blk w' w.heap.size 30 [c0,c1,c2,c3]∧Ext w w':=by
 obtain⟨W1,hW1,hx1,hb1⟩:=q2d w c0 c1 c2 c3 30;have hV1:=hW1.symm;have hmf:=@hmf_ Tryz.prog;have HX:=Hd (y1x hb1 hx1);clear hW1 hx1 hb1;go_enter func36,ntmps36;go_wp2_with fail
 go_ret;exact⟨rfl,HX.o⟩
def k8j(tm:Nat)(o:ByteArray→Option Int)(w:World)(w':World):Prop:=EnvM w' tm o∧Chg (fun k=>k=tm) w w'
theorem j2z(w:World)(m:Nat)(o:Obj):Chg (fun k=>k=m) w (z4f w m o):=(y1u _ w).grown (z4i w m o) (fun k e _=>by injection e with e;exact e.symm)
theorem j7k(W0:World)(B sb mp tm gs gt:Nat)(ve:Value)(s:Sc)(b:Bnd)(cs:List Value)(o:ByteArray→Option Int)(w:World)(hc:Cx W0 B w)(hsc:ScI w sb mp ve s)(hln:s.env.length≤1000000)
 (hbs:Blk w gs 100 [.pointer (some ⟨sb,0,none⟩)]) (hbt:Blk w gt 93 [.map (some tm)]) (hm:EnvM w tm o) (hR:RB W0 B b cs) (hX:∀c,RX W0 B b.x c→XOk W0 B b.x c):
 Calls Tryz.prog 152 (#[.agg cs.toArray]++#[.pointer (some ⟨gs,0,none⟩),.pointer (some ⟨gt,0,none⟩)]) w (RunsP (z1p s b.x) (fun v u w'=>u=z1w∧k8j tm (z3h o b.name v) w w') (Chg (fun k=>k=tm) w)):=by
 have HM:=Hd hm;have HC:=Hd hc;have HSC:=Hd hsc;obtain⟨c,rfl,hRX⟩:=hR;have HX0:=Hd (hX _ hRX);obtain⟨x5,rfl,h5⟩:=RX_iff.1 hRX;have o5:=h5.oneCell;obtain⟨W1,hW1,hx1,hb1⟩:=k5c w (.string b.name) (.int .i64 b.x.op) (.string b.x.name) (.int .i64 b.x.n) (.int .i64 b.x.w) (.int .u64 b.x.v) x5 45;obtain⟨e1,he1⟩:=y1h (W:=W1) (w:=W1) (y1g _);have hV1:=hW1.symm.trans he1;obtain⟨p0,p1,p2,p3,p4,p5,p6⟩:=hb1.later7;have n0:=cellAt ((hbs.ext hx1).cell 0);have n1:=cellAt ((hbt.ext hx1).cell 0);have X1:=Hd hx1;have KE:=Hd (fun(w':World) (hw:Ext W1 w')=>z4p W0 B b.x _ sb mp ve s w' (HC.o.later (X1.o.trans hw)) HX0.o (HSC.o.ext (X1.o.trans hw)) hln);have HW1:=Hd he1;clear hc hsc hbs hbt hm hX hRX h5 hW1 hx1 hb1 he1 hln;go_enter func152,ntmps152;go_wp2_with fail
 refine z0m 7 (W:=W1) (Ext) (evF 6 99 (z1p s b.x) (fun a=>.int .i64 a) (fun a v w'=>True) [.map (some tm),.pointer (some ⟨w.heap.size,0,none⟩),.string b.name,.pointer (some ⟨sb,0,none⟩),.pointer (some ⟨w.heap.size,1,none⟩),.agg #[.int .i64 b.x.op,.string b.x.name,.int .i64 b.x.n,.int .i64 b.x.w,.int .u64 b.x.v,x5],undef]) (evP (z1p s b.x) W1) (fun _=>true) (by kernel_rfl) (z0s) (by kernel_rfl) (by kernel_rfl) ?_ (y1i e1) (fun i v w w' h hx=>z9p (fun _ _ _ _ h _=>h) h hx) ?_ (fun A ch wz hd hp=>by
  obtain⟨c,hr,rfl,hx⟩:=hp;obtain⟨ta,da⟩:=A;simp only at hd;subst hd;have HN:=Hd (show RunsP (z1p s b.x) (fun v u w'=>u=z1w∧k8j tm (z3h o b.name v) w w') (Chg (fun k=>k=tm) w) (.panicked (z2c c)) wz from .no hr ((X1.o.trans hx).chg));exact⟨rfl,HN.o⟩) ?_
 ·exact⟨rfl,rfl,rfl,rfl,rfl,rfl,rfl,trivial⟩
 ·refine⟨?_,?_,?_,?_,?_,?_,?_,trivial⟩;rotate_left 6
  ·intro A wa hxa hd h0;obtain⟨ea,rfl⟩:=y1h hxa;have q3:=z0d hd 3 7 (by kernel_rfl) rfl;simp[evF] at q3;have q5:=z0d hd 5 9 (by kernel_rfl) rfl;simp[evF] at q5;clear hd h0;go_simp;refine(KE.o ea.w ea.ext).mono ?_;rintro e wk (⟨a,u,hr,rfl,rfl,hxk⟩|⟨c,hr,rfl,hxk⟩);rotate_left
   ·exact⟨rfl,c,hr,rfl,ea.ext.trans hxk⟩
   have HR:=Hd hr;clear hr;go_simp;first|exact⟨_,rfl,hxk,a,HR.o,rfl⟩|exact⟨hxk,a,HR.o,rfl⟩|exact⟨_,rfl,a,HR.o,rfl⟩
  all_goals
   intro A wa hxa hd h0;obtain⟨ea,rfl⟩:=y1h hxa;try (have q1:=z0d hd 1 5 (by decide) rfl;simp[evF] at q1)
   try (have q4:=z0d hd 4 8 (by decide) rfl;simp[evF] at q4)
   have r2:=z0c h0 2 (by kernel_rfl);simp at r2;have r3:=z0c h0 3 (by kernel_rfl);simp at r3;have r1:=z0c h0 1 (by kernel_rfl);simp at r1;clear hd h0;go_simp;first|exact⟨_,rfl,y1g _,rfl⟩|exact⟨y1g _,rfl⟩|exact rfl|exact⟨_,rfl,rfl⟩|exact y1g _
 ·intro A wa hk;obtain⟨f,rfl,hxa,hdn,hrs⟩:=hk.fin (n:=11) rfl;obtain⟨ea,rfl⟩:=y1h hxa;have k4:f 4=.map (some tm):=hdn 0 4 rfl rfl;have k6:f 6=.string b.name:=hdn 2 6 rfl rfl;obtain⟨a,hr6,k10⟩:=hdn 6 10 rfl rfl;clear hdn hrs;simp only[List.drop_succ_cons,List.drop_zero];simp[List.range,List.range.loop,k4,k6,k10];clear k4 k6 k10;have HR6:=Hd hr6;obtain⟨ob,hup,hm6⟩:=(HM.o.ext (X1.o.trans ea.ext)).put b.name a;obtain⟨W6,hW6⟩:∃W6,W6=z4f ea.w tm ob:=⟨_,rfl⟩;rw[←hW6] at hup hm6;have HT:=Hd (show k8j tm (z3h o b.name a) w W6 from⟨hm6,(X1.o.trans ea.ext).chg.trans (by rw[hW6];exact j2z _ _ _)⟩);clear hW6 hm6 hr6;go_wp2_with fail
  refine bodyPost_ret (v:=z1w) ?_ rfl (.ok HR6.o ⟨rfl,HT.o⟩);simp[results,results152,go_sem,z1w]
def y0l(W0:World)(B:Nat)(fk:FuncId)(kind:Prt→Int):Prop:=∀(p:Prt) (w:World) (c:List Value),Ext W0 w→RP W0 B p c→Calls Tryz.prog fk #[.agg c.toArray] w fun e w'=>e=.returned (.int .i64 (kind p))∧Ext w w'
def HdR(W0:World)(B N0 mb:Nat)(vf:Value)(n:Nat)(path:ByteArray)(w:World)(r:Sc×Mk)(v:Value)(w':World):Prop:=
 ∃b g,v=.pointer (some ⟨b,0,none⟩)∧w.heap.size≤b∧w.heap.size≤g∧EC W0 B N0 mb b g vf r.2 r.1 w'∧(∀g1 g2,FrI N0 mb g1 g2 w w')∧r.1.path=path∧r.1.env.length≤n
theorem j1h{kind:Prt→Int}(p:Prt)(l:List Prt)(s:Sc)(m:Mk):z3v kind (p::l) s m=(do let w←z2q s p.w;let z←z2n p.name w (kind p) 0 s m;z3v kind l z.1 z.2):=by rw[z3v]
theorem q8p{z4e:ByteArray→Option Int}(p:Bnd)(l:List Bnd)(s:Sc){v:Int}(h:z4e p.name=some v):z2v z4e (p::l) s=z2v z4e l (s.con p.name v):=by rw[z2v,h];rfl
theorem q8q{z4e:ByteArray→Option Int}(p:Bnd)(l:List Bnd)(s:Sc)(h:z4e p.name=none):z2v z4e (p::l) s=(do let v←z1p s p.x;z2v z4e l (s.con p.name v)):=by rw[z2v,h]
theorem j3v(W0:World)(B N0 mb sb mp tm:Nat)(vf vs vp vc:Value)(of:Mdl)(cs:List Value)(z4e:ByteArray→Option Int)(path:ByteArray)(fk:FuncId)(henK:Enters Tryz.prog fk)(kind:Prt→Int)(m:Mk)(w:World)
 (hc:Cx W0 B w) (htab:TabP W0) (hmk:MkI w N0 mb vf vs vp vc m) (hi:MInv m) (hw:∀g,g∈m.d.sigs→1≤g.w∧g.w≤64) (hlo:W0.heap.size≤N0)
 (hm:EnvM w tm z4e) (hin:∀nm v,z4e nm=some v→z1j v) (hR:RM W0 B of cs) (hK:y0l W0 B fk kind)
 (hXp:∀b,b∈of.params→∀c,RX W0 B b.x c→XOk W0 B b.x c) (hXq:∀p,p∈of.ports→∀c,RX W0 B p.w c→XOk W0 B p.w c)
 (hln:of.params.length≤1000000) (hlq:of.ports.length≤1000000) (hnm:∀p,p∈of.ports→p.name.size≤1000000000) (hpath:path.size≤1000000000):
 z9b Tryz.prog 37 #[.pointer (some ⟨mb,0,none⟩),.agg cs.toArray,.map (some tm),.string path,.func (.func fk) #[] #[]] w (q4k of z4e path kind m) (HdR W0 B N0 mb vf of.params.length path w) (FrI N0 mb sb mp w):=by
 have hck:=henK.o;have HKD:=Hd hK;have HXP:=Hd hXp;have HXQ:=Hd hXq;have HNM:=Hd hnm;have HIN:=Hd hin;have HM:=Hd hm;have htm:=hm.lt;have htmb:tm≠mb:=fun e=>hm.noTag (e▸hmk.blk.tag)
 have hmw:=hmk.blk.lt;have hNm:=hmk.base;have hW0:=hc.ext.size;obtain⟨v1,v2,v3,rfl,h1,h2,h3⟩:=hR;have o1:=h1.oneCell;have o2:=h2.oneCell;have o3:=h3.oneCell;obtain⟨la,lc,rfl,hlc,hlr⟩:=h1;obtain⟨qa,qc,rfl,hqc,hqr⟩:=h2;have HLR:=Hd hlr;have HQR:=Hd hqr;obtain⟨W1,hW1,hx1,hb1⟩:=q2d w (.string of.name) (.slice la of.params.length lc) (.slice qa of.ports.length qc) v3 30;have hV1:=hW1.symm;obtain⟨W2,hW2⟩:∃W2,W2=W1.alloc (.map #[] 0):=⟨_,rfl⟩;have hV2:=hW2.symm;have hx2:Ext W1 W2:=by rw[hW2];exact y1v _ _
 have hm2:EnvM W2 W1.heap.size (fun _=>none):=by rw[hW2];exact EnvM.new _
 obtain⟨W3,hW3,hx3,hb3⟩:=k1n W2 (.slice none 0 0) (.map (some W1.heap.size)) (.string path) 126;have hV3:=hW3.symm;obtain⟨c0,c1,c2,c3⟩:=(hb1.ext (hx2.trans hx3)).get4;have s1:w.heap.size<W1.heap.size:=hb1.lt;have s2:W1.heap.size<W2.heap.size:=hm2.lt;have s3:W2.heap.size<W3.heap.size:=hb3.lt;have X3:=Hd (hx1.trans (hx2.trans hx3));have HB1:=Hd (hb1.ext (hx2.trans hx3));obtain⟨sb',hsb⟩:∃b,b=W2.heap.size:=⟨_,rfl⟩;obtain⟨mp',hmp⟩:∃b,b=W1.heap.size:=⟨_,rfl⟩
 have hEC:EC W0 B N0 mb W2.heap.size W1.heap.size vf m ⟨[],fun _=>none,path⟩ W3:=
  ⟨⟨vs,vp,vc,.slice none 0 0,hmk.ext X3.o,hb3,SlT.nil,hm2.ext hx3⟩,hc.later X3.o,⟨fun _ _ h=>(by cases h),hw,by show(0:Nat)≤1000000;decide,fun _ h=>(by cases h)⟩,hi,hlo,by omega,by omega,htab⟩
 have HEC:=Hd hEC;have HFR:=Hd (y1z (N0:=N0) (mb:=mb) (sb:=W2.heap.size) (mp:=W1.heap.size) X3.o);obtain⟨R,hRR⟩:∃R,R=q4k of z4e path kind m:=⟨_,rfl⟩;rw[←hRR];have HZ0:=Hd (show R=(do let s←z2v z4e (of.params.drop 0) ⟨[],fun _=>none,path⟩;z3v kind of.ports s m) from hRR);have bigF:∀(w':World),FrI N0 mb W2.heap.size W1.heap.size w w'→∀sb mp,FrI N0 mb sb mp w w':=fun w' h sb mp=>h.fresh w (FrI.refl _ _ _ _ _) (.inl (by omega)) (.inl (by omega))
 have BIG:=Hd bigF;rw[←hsb] at HEC HFR BIG;rw[←hmp] at HEC HFR BIG hV3;have hsb1:w.heap.size<sb':=by omega
 have hmp1:w.heap.size<mp':=by omega
 have hsbt:¬tm=sb':=by omega
 have hmpt:¬tm=mp':=by omega
 have hne0:¬w.heap.size=mb:=by omega
 have hne1:¬w.heap.size=sb':=by omega
 have hne2:¬w.heap.size=mp':=by omega
 have hmpV:W1.heap.size=mp':=hmp.symm;have hsbV:W2.heap.size=sb':=hsb.symm;clear hc htab hmk hi hw hm hin hK hXp hXq hnm h3 hlr hqr hW1 hx1 hb1 hW2 hx2 hm2 hW3 hx3 hb3 hEC hRR bigF henK hsb hmp s1 s2 s3 hlc hqc;have hmm:=@run_makeMap Tryz.prog;go_enter func37,ntmps37;go_wp2_with fail
 go_loopw [25] (fun i wr=>∃(k:Nat) (s':Sc),k≤of.params.length∧i=.int .i64 k∧EC W0 B N0 mb sb' mp' vf m s' wr∧FrI N0 mb sb' mp' w wr∧Blk wr w.heap.size 30 [.string of.name,.slice la of.params.length lc,.slice qa of.ports.length qc,v3]∧s'.env.length≤k∧s'.path=path∧R=(do let s←z2v z4e (of.params.drop k) s';z3v kind of.ports s m)) (fun i _=>of.params.length - (intOf i).toNat)
 case atStart=>exact⟨0,⟨[],fun _=>none,path⟩,y1p _,rfl,HEC.o,HFR.o,HB1.o,y1j _,rfl,HZ0.o⟩
 case round=>
  obtain⟨k,s',hk,rfl,hec,hfr,hbm,hel,hpe,hR⟩:=hrel;clear HZ0 HEC HFR HB1 hV1 hV2 hV3 c0 c1 c2 c3 X3;have HE:=Hd hec;have HFR:=Hd hfr;have HPE:=Hd hpe;have HBM:=Hd hbm;by_cases hlt:k<of.params.length
  ·rw[List.drop_eq_getElem_cons hlt] at hR;have HX0:=Hd (HXP.o of.params[k] (y1l hlt));obtain⟨b,o,cs,hsa,hbw,hcl,hC,ho1,hRB⟩:=HLR.o _ hlt;subst hsa;obtain⟨c,rfl,hRX⟩:=hRB;have HXX:=Hd (HX0.o _ hRX);obtain⟨x5,rfl,h5⟩:=RX_iff.1 hRX;have o5:=h5.oneCell;obtain⟨d0,d1,d2,d3,d4,d5,d6⟩:=(hC.ext hec.cx.ext).get7;obtain⟨W4,hW4,hx4,hb4⟩:=k5c wr (.string of.params[k].name) (.int .i64 of.params[k].x.op) (.string of.params[k].x.name) (.int .i64 of.params[k].x.n) (.int .i64 of.params[k].x.w) (.int .u64 of.params[k].x.v) x5 45;have hV4:=hW4.symm;obtain⟨p0,p1,p2,p3,p4,p5,p6⟩:=hb4.get7;have H4:=Hd (HE.o.ext hx4);have HB4:=Hd hb4;have X4:=Hd hx4;have hlk:=((hfr.map HM.o htmb hsbt hmpt).ext hx4).look of.params[k].name;obtain⟨vs',vp',vc',ve,hmk4,hsc4⟩:=H4.o.ex;have HSC4:=Hd hsc4;have HG4:=Hd H4.o.gd.env;have hs4:wr.heap.size<W4.heap.size:=hb4.lt;have hmlt:=hec.mlt;have hlen:s'.env.length≤k:=hel;generalize of.params[k]=y at*;clear hW4 hx4 hb4 hC hRX h5 ho1 hfr hel hpe hmk4 hsc4 hec hbm;cases htd:z4e y.name with
   |some v=>
    rw[htd] at hlk;have HRR:=Hd (show R=(do let s←z2v z4e (of.params.drop (k+1)) (s'.con y.name v);z3v kind of.ports s m) by rw[hR,q8p _ _ _ htd]);have HVI:=Hd (HIN.o _ _ htd);simp only[Option.getD_some,Option.isSome_some] at hlk;clear hR htd;have hs5:wr.heap.size<W4.heap.size:=hs4;have HB5:=Hd HB4.o;have H5:=Hd H4.o;have HSC5:=Hd HSC4.o;have X5:=Hd X4.o;obtain⟨b0,b1,b2⟩:=HSC5.o.blk.later3;rw[HPE.o] at b2;obtain⟨f0,f1,f2,f3,f4,f5,f6⟩:=HB5.o.later7;have oe:=HSC5.o.env.oneCell;have KC:=Hd (fun(w':World) (hx:Ext W4 w')=>show Calls Tryz.prog 72 #[.agg #[ve,.map (some mp'),.string path],.string y.name,.int .i64 v] w' fun r w''=>∃ve',r=.returned (.agg #[ve',.map (some mp'),.string path])∧SlT 85 RNm w'' 2 (s'.env++[(y.name,v)]) ve'∧Ext w' w'' by rw[←HPE.o];exact z4r s' ve (.map (some mp')) y.name v w' ((HSC5.o.ext hx).env) rfl HG4.o);go_wp2_with fail
    refine z0m 9 (W:=W4) (Ext) (paC (s'.env++[(y.name,v)]) mp' path [.pointer (some ⟨sb',0,none⟩),.pointer (some ⟨sb',0,none⟩),.pointer (some ⟨sb',0,none⟩),.agg #[ve,.map (some mp'),.string path],.pointer (some ⟨wr.heap.size,0,none⟩),.string y.name,.int .i64 v,undef,.pointer (some ⟨sb',0,none⟩)]) (fun _ _=>False) (fun _=>true) (by kernel_rfl) (z0s) (by kernel_rfl) (by kernel_rfl) ?_ (y1g _) (fun i v w w' h hx=>j1i h hx) ?_ (fun A ch w hd hp=>hp.elim) ?_
    ·exact⟨rfl,rfl,rfl,rfl,rfl,rfl,rfl,rfl,rfl,trivial⟩
    ·refine⟨?_,?_,?_,?_,?_,?_,?_,?_,?_,trivial⟩;rotate_left 7
     ·intro A wa hxa hd h0;obtain⟨ea,rfl⟩:=y1h hxa;have q3:=z0d hd 3 45 (by kernel_rfl) rfl;simp[paC] at q3;have q5:=z0d hd 5 47 (by kernel_rfl) rfl;simp[paC] at q5;have q6:=z0d hd 6 48 (by kernel_rfl) rfl;simp[paC] at q6;clear hd h0;go_simp;refine(KC.o ea.w ea.ext).mono ?_;rintro e wk ⟨vk,rfl,hse,hxk⟩;have ok':=hse.oneCell;go_simp;first|exact⟨_,rfl,hxk,vk,rfl,hse⟩|exact⟨hxk,vk,rfl,hse⟩|exact⟨_,rfl,vk,rfl,hse⟩
     all_goals
      intro A wa hxa hd h0;obtain⟨ea,rfl⟩:=y1h hxa;try (have q0:=z0d hd 0 42 (by decide) rfl;simp[paC] at q0)
      try (have q1:=z0d hd 1 43 (by decide) rfl;simp[paC] at q1)
      try (have q2:=z0d hd 2 44 (by decide) rfl;simp[paC] at q2)
      try (have q4:=z0d hd 4 46 (by decide) rfl;simp[paC] at q4)
      have r11:=z0c h0 11 (by kernel_rfl);simp at r11;have r13:=z0c h0 13 (by kernel_rfl);simp at r13;have r14:=z0c h0 14 (by kernel_rfl);simp at r14;clear hd h0;go_simp;first|exact⟨_,rfl,y1g _,rfl⟩|exact⟨y1g _,rfl⟩|exact rfl|exact⟨_,rfl,rfl⟩|exact y1g _
    ·intro A wa hk;obtain⟨f,rfl,hxa,hdn,hrs⟩:=hk.fin (n:=73) rfl;obtain⟨ea,rfl⟩:=y1h hxa;have k0:=hrs 0 (by kernel_rfl);have k1:=hrs 1 (by kernel_rfl);have k2:=hrs 2 (by kernel_rfl);have k3:=hrs 3 (by kernel_rfl);have k4:=hrs 4 (by kernel_rfl);have k5:=hrs 5 (by kernel_rfl);have k6:=hrs 6 (by kernel_rfl);have k7:=hrs 7 (by kernel_rfl);have k8:=hrs 8 (by kernel_rfl);have k9:=hrs 9 (by kernel_rfl);have k10:=hrs 10 (by kernel_rfl);have k11:=hrs 11 (by kernel_rfl);have k12:=hrs 12 (by kernel_rfl);have k16:=hrs 16 (by kernel_rfl);have k17:=hrs 17 (by kernel_rfl);have k18:=hrs 18 (by kernel_rfl);have k19:=hrs 19 (by kernel_rfl);have k20:=hrs 20 (by kernel_rfl);have k21:=hrs 21 (by kernel_rfl);have k22:=hrs 22 (by kernel_rfl);have k23:=hrs 23 (by kernel_rfl);have k24:=hrs 24 (by kernel_rfl);have k25:=hrs 25 (by kernel_rfl);have k52:=hrs 52 (by kernel_rfl);have k53:=hrs 53 (by kernel_rfl);have k54:=hrs 54 (by kernel_rfl);have k55:=hrs 55 (by kernel_rfl);have k56:=hrs 56 (by kernel_rfl);have k57:=hrs 57 (by kernel_rfl);have k58:=hrs 58 (by kernel_rfl);have k59:=hrs 59 (by kernel_rfl);have k60:=hrs 60 (by kernel_rfl);have k61:=hrs 61 (by kernel_rfl);have k62:=hrs 62 (by kernel_rfl);have k63:=hrs 63 (by kernel_rfl);have k64:=hrs 64 (by kernel_rfl);have k65:=hrs 65 (by kernel_rfl);have k66:=hrs 66 (by kernel_rfl);have k67:=hrs 67 (by kernel_rfl);have k68:=hrs 68 (by kernel_rfl);have k69:=hrs 69 (by kernel_rfl);have k70:=hrs 70 (by kernel_rfl);have k71:=hrs 71 (by kernel_rfl);have k72:=hrs 72 (by kernel_rfl);have k50:f 50=.pointer (some ⟨sb',0,none⟩):=hdn 8 50 rfl rfl;obtain⟨vk,k49,hk3⟩:=hdn 7 49 rfl rfl;clear hdn hrs;simp at k0 k1 k2 k3 k4 k5 k6 k7 k8 k9 k10 k11 k12 k16 k17 k18 k19 k20 k21 k22 k23 k24 k25 k52 k53 k54 k55 k56 k57 k58 k59 k60 k61 k62 k63 k64 k65 k66 k67 k68 k69 k70 k71 k72;simp only[List.drop_succ_cons,List.drop_zero];simp[List.range,List.range.loop,k0,k1,k2,k3,k4,k5,k6,k7,k8,k9,k10,k11,k12,k16,k17,k18,k19,k20,k21,k22,k23,k24,k25,k52,k53,k54,k55,k56,k57,k58,k59,k60,k61,k62,k63,k64,k65,k66,k67,k68,k69,k70,k71,k72,k50,k49];clear k0 k1 k2 k3 k4 k5 k6 k7 k8 k9 k10 k11 k12 k16 k17 k18 k19 k20 k21 k22 k23 k24 k25 k52 k53 k54 k55 k56 k57 k58 k59 k60 k61 k62 k63 k64 k65 k66 k67 k68 k69 k70 k71 k72 k50 k49;have HK3:=Hd hk3;have b6:=HSC5.o.blk.ext ea.ext;have ok':=hk3.oneCell;obtain⟨j0,j1,j2⟩:=b6.free3;obtain⟨i0,i1,i2⟩:=b6.get3;rw[HPE.o] at i2;obtain⟨W9,hW9⟩:∃W9,W9=(((ea.w.setCell ⟨sb',0,none⟩ vk).setCell ⟨sb',1,none⟩ (.map (some mp'))).setCell ⟨sb',2,none⟩ (.string path)):=⟨_,rfl⟩;have hV9:=hW9.symm;have b9:Blk W9 sb' 126 [vk,.map (some mp'),.string s'.path]:=by rw[hW9,HPE.o];exact b6.store3 _ _ _
     have hc9:Chg (fun k=>k=sb') ea.w W9:=by rw[hW9];exact z8z _ _ _ _ _
     have HE9:=Hd (H5.o.con ea.ext hc9 b9 HK3.o HVI.o (by omega));have HF9:=Hd ((HFR.o.trans (.of_ext X5.o)).trans HE9.o.2);have HB9:=Hd (hc9.blk (HBM.o.ext (X5.o.trans ea.ext)) hne1);clear hc9 hW9 b9 b6 hk3 b0 b1 b2 f0 f1 f2 f3 f4 f5 f6 KC;go_wp2_with fail
     go_roundw;case rel=>exact⟨k+1,s'.con y.name v,by omega,by go_num,HE9.o.1,HF9.o,HB9.o,by show(s'.env++[(y.name,v)]).length≤k+1;rw[List.length_append];simp only[List.length_cons,List.length_nil];omega,HPE.o,HRR.o⟩
     case measure=>simp[intOf];omega
   |none=>
    rw[htd] at hlk;have HRR:=Hd (show R=(do let s←(do let v←z1p s' y.x;z2v z4e (of.params.drop (k+1)) (s'.con y.name v));z3v kind of.ports s m) by rw[hR,q8q _ _ _ htd]);simp only[Option.getD_none,Option.isSome_none] at hlk;clear hR htd;have KE:=Hd (z4p W0 B y.x _ sb' mp' ve s' W4 H4.o.cx HXX.o HSC4.o HG4.o);go_wp2_with fail
    go_at_call 71;refine KE.o.mono ?_;rintro e w5 (⟨v,u,hr,rfl,rfl,hx5⟩|⟨c,hr,rfl,hx5⟩);rotate_left
    ·exact⟨rfl,.no (by rw[HRR.o,hr];rfl) (BIG.o _ ((HFR.o.trans (.of_ext X4.o)).trans (.of_ext hx5)) _ _)⟩
    obtain⟨W5,hW5⟩:∃W5,W5=w5:=⟨_,rfl⟩;rw[←hW5] at hx5⊢;have HVI:=Hd (q0o hr);have HB5:=Hd (HB4.o.ext hx5);have H5:=Hd (H4.o.ext hx5);have HSC5:=Hd (HSC4.o.ext hx5);have X5:=Hd (X4.o.trans hx5);have hs5:wr.heap.size<W5.heap.size:=y1m hs4 hx5.size;have HRR2:=Hd (show R=(do let s←z2v z4e (of.params.drop (k+1)) (s'.con y.name v);z3v kind of.ports s m) by rw[HRR.o,hr];rfl);replace HRR:=HRR2;clear hr hx5 hW5 hlk d0 d1 d2 d3 d4 d5 d6 p0 p1 p2 p3 p4 p5 p6 hV4 HRR2 KE;obtain⟨b0,b1,b2⟩:=HSC5.o.blk.later3;rw[HPE.o] at b2;obtain⟨f0,f1,f2,f3,f4,f5,f6⟩:=HB5.o.later7;have oe:=HSC5.o.env.oneCell;have KC:=Hd (fun(w':World) (hx:Ext W5 w')=>show Calls Tryz.prog 72 #[.agg #[ve,.map (some mp'),.string path],.string y.name,.int .i64 v] w' fun r w''=>∃ve',r=.returned (.agg #[ve',.map (some mp'),.string path])∧SlT 85 RNm w'' 2 (s'.env++[(y.name,v)]) ve'∧Ext w' w'' by rw[←HPE.o];exact z4r s' ve (.map (some mp')) y.name v w' ((HSC5.o.ext hx).env) rfl HG4.o);go_wp2_with fail
    refine z0m 9 (W:=W5) (Ext) (paC (s'.env++[(y.name,v)]) mp' path [.pointer (some ⟨sb',0,none⟩),.pointer (some ⟨sb',0,none⟩),.pointer (some ⟨sb',0,none⟩),.agg #[ve,.map (some mp'),.string path],.pointer (some ⟨wr.heap.size,0,none⟩),.string y.name,.int .i64 v,undef,.pointer (some ⟨sb',0,none⟩)]) (fun _ _=>False) (fun _=>true) (by kernel_rfl) (z0s) (by kernel_rfl) (by kernel_rfl) ?_ (y1g _) (fun i v w w' h hx=>j1i h hx) ?_ (fun A ch w hd hp=>hp.elim) ?_
    ·exact⟨rfl,rfl,rfl,rfl,rfl,rfl,rfl,rfl,rfl,trivial⟩
    ·refine⟨?_,?_,?_,?_,?_,?_,?_,?_,?_,trivial⟩;rotate_left 7
     ·intro A wa hxa hd h0;obtain⟨ea,rfl⟩:=y1h hxa;have q3:=z0d hd 3 45 (by kernel_rfl) rfl;simp[paC] at q3;have q5:=z0d hd 5 47 (by kernel_rfl) rfl;simp[paC] at q5;have q6:=z0d hd 6 48 (by kernel_rfl) rfl;simp[paC] at q6;clear hd h0;go_simp;refine(KC.o ea.w ea.ext).mono ?_;rintro e wk ⟨vk,rfl,hse,hxk⟩;have ok':=hse.oneCell;go_simp;first|exact⟨_,rfl,hxk,vk,rfl,hse⟩|exact⟨hxk,vk,rfl,hse⟩|exact⟨_,rfl,vk,rfl,hse⟩
     all_goals
      intro A wa hxa hd h0;obtain⟨ea,rfl⟩:=y1h hxa;try (have q0:=z0d hd 0 42 (by decide) rfl;simp[paC] at q0)
      try (have q1:=z0d hd 1 43 (by decide) rfl;simp[paC] at q1)
      try (have q2:=z0d hd 2 44 (by decide) rfl;simp[paC] at q2)
      try (have q4:=z0d hd 4 46 (by decide) rfl;simp[paC] at q4)
      have r11:=z0c h0 11 (by kernel_rfl);simp at r11;have r13:=z0c h0 13 (by kernel_rfl);simp at r13;have r14:=z0c h0 14 (by kernel_rfl);simp at r14;clear hd h0;go_simp;first|exact⟨_,rfl,y1g _,rfl⟩|exact⟨y1g _,rfl⟩|exact rfl|exact⟨_,rfl,rfl⟩|exact y1g _
    ·intro A wa hk;obtain⟨f,rfl,hxa,hdn,hrs⟩:=hk.fin (n:=73) rfl;obtain⟨ea,rfl⟩:=y1h hxa;have k0:=hrs 0 (by kernel_rfl);have k1:=hrs 1 (by kernel_rfl);have k2:=hrs 2 (by kernel_rfl);have k3:=hrs 3 (by kernel_rfl);have k4:=hrs 4 (by kernel_rfl);have k5:=hrs 5 (by kernel_rfl);have k6:=hrs 6 (by kernel_rfl);have k7:=hrs 7 (by kernel_rfl);have k8:=hrs 8 (by kernel_rfl);have k9:=hrs 9 (by kernel_rfl);have k10:=hrs 10 (by kernel_rfl);have k11:=hrs 11 (by kernel_rfl);have k12:=hrs 12 (by kernel_rfl);have k16:=hrs 16 (by kernel_rfl);have k17:=hrs 17 (by kernel_rfl);have k18:=hrs 18 (by kernel_rfl);have k19:=hrs 19 (by kernel_rfl);have k20:=hrs 20 (by kernel_rfl);have k21:=hrs 21 (by kernel_rfl);have k22:=hrs 22 (by kernel_rfl);have k23:=hrs 23 (by kernel_rfl);have k24:=hrs 24 (by kernel_rfl);have k25:=hrs 25 (by kernel_rfl);have k52:=hrs 52 (by kernel_rfl);have k53:=hrs 53 (by kernel_rfl);have k54:=hrs 54 (by kernel_rfl);have k55:=hrs 55 (by kernel_rfl);have k56:=hrs 56 (by kernel_rfl);have k57:=hrs 57 (by kernel_rfl);have k58:=hrs 58 (by kernel_rfl);have k59:=hrs 59 (by kernel_rfl);have k60:=hrs 60 (by kernel_rfl);have k61:=hrs 61 (by kernel_rfl);have k62:=hrs 62 (by kernel_rfl);have k63:=hrs 63 (by kernel_rfl);have k64:=hrs 64 (by kernel_rfl);have k65:=hrs 65 (by kernel_rfl);have k66:=hrs 66 (by kernel_rfl);have k67:=hrs 67 (by kernel_rfl);have k68:=hrs 68 (by kernel_rfl);have k69:=hrs 69 (by kernel_rfl);have k70:=hrs 70 (by kernel_rfl);have k71:=hrs 71 (by kernel_rfl);have k72:=hrs 72 (by kernel_rfl);have k50:f 50=.pointer (some ⟨sb',0,none⟩):=hdn 8 50 rfl rfl;obtain⟨vk,k49,hk3⟩:=hdn 7 49 rfl rfl;clear hdn hrs;simp at k0 k1 k2 k3 k4 k5 k6 k7 k8 k9 k10 k11 k12 k16 k17 k18 k19 k20 k21 k22 k23 k24 k25 k52 k53 k54 k55 k56 k57 k58 k59 k60 k61 k62 k63 k64 k65 k66 k67 k68 k69 k70 k71 k72;simp only[List.drop_succ_cons,List.drop_zero];simp[List.range,List.range.loop,k0,k1,k2,k3,k4,k5,k6,k7,k8,k9,k10,k11,k12,k16,k17,k18,k19,k20,k21,k22,k23,k24,k25,k52,k53,k54,k55,k56,k57,k58,k59,k60,k61,k62,k63,k64,k65,k66,k67,k68,k69,k70,k71,k72,k50,k49];clear k0 k1 k2 k3 k4 k5 k6 k7 k8 k9 k10 k11 k12 k16 k17 k18 k19 k20 k21 k22 k23 k24 k25 k52 k53 k54 k55 k56 k57 k58 k59 k60 k61 k62 k63 k64 k65 k66 k67 k68 k69 k70 k71 k72 k50 k49;have HK3:=Hd hk3;have b6:=HSC5.o.blk.ext ea.ext;have ok':=hk3.oneCell;obtain⟨j0,j1,j2⟩:=b6.free3;obtain⟨i0,i1,i2⟩:=b6.get3;rw[HPE.o] at i2;obtain⟨W9,hW9⟩:∃W9,W9=(((ea.w.setCell ⟨sb',0,none⟩ vk).setCell ⟨sb',1,none⟩ (.map (some mp'))).setCell ⟨sb',2,none⟩ (.string path)):=⟨_,rfl⟩;have hV9:=hW9.symm;have b9:Blk W9 sb' 126 [vk,.map (some mp'),.string s'.path]:=by rw[hW9,HPE.o];exact b6.store3 _ _ _
     have hc9:Chg (fun k=>k=sb') ea.w W9:=by rw[hW9];exact z8z _ _ _ _ _
     have HE9:=Hd (H5.o.con ea.ext hc9 b9 HK3.o HVI.o (by omega));have HF9:=Hd ((HFR.o.trans (.of_ext X5.o)).trans HE9.o.2);have HB9:=Hd (hc9.blk (HBM.o.ext (X5.o.trans ea.ext)) hne1);clear hc9 hW9 b9 b6 hk3 b0 b1 b2 f0 f1 f2 f3 f4 f5 f6 KC;go_wp2_with fail
     go_roundw;case rel=>exact⟨k+1,s'.con y.name v,by omega,by go_num,HE9.o.1,HF9.o,HB9.o,by show(s'.env++[(y.name,v)]).length≤k+1;rw[List.length_append];simp only[List.length_cons,List.length_nil];omega,HPE.o,HRR.o⟩
     case measure=>simp[intOf];omega
  ·have hkl:k=of.params.length:=by omega
   subst hkl;have hRd:R=z3v kind of.ports s' m:=by rw[hR,List.drop_length];rfl
   have HZ1:=Hd (show R=z3v kind (of.ports.drop 0) s' m from hRd);have hel2:s'.env.length≤of.params.length:=by omega
   obtain⟨y0,y1,y2,y3⟩:=hbm.get4;clear hR hRd hec hfr hbm hel hpe;go_wp2_with fail
   go_loopw [55] (fun i wr=>∃(k:Nat) (s2:Sc) (m2:Mk),k≤of.ports.length∧i=.int .i64 k∧EC W0 B N0 mb sb' mp' vf m2 s2 wr∧FrI N0 mb sb' mp' w wr∧s2.env.length≤of.params.length∧s2.path=path∧R=z3v kind (of.ports.drop k) s2 m2) (fun i _=>of.ports.length - (intOf i).toNat)
   case atStart=>exact⟨0,s',m,y1p _,rfl,HE.o,HFR.o,hel2,HPE.o,HZ1.o⟩
   case round=>
    obtain⟨k2,s2,m2,hk2,rfl,hec,hfr,hel,hpe,hR⟩:=hrel;clear HZ1 HE HFR HPE y0 y1 y2 y3 HBM;have HE:=Hd hec;have HFR:=Hd hfr;have HPE:=Hd hpe;by_cases hlt2:k2<of.ports.length
    ·rw[List.drop_eq_getElem_cons hlt2,j1h] at hR;have HRR:=Hd hR;have HX0:=Hd (HXQ.o of.ports[k2] (y1l hlt2));have hel9:=Hd hel;have hnms:=HNM.o of.ports[k2] (y1l hlt2);obtain⟨b,o,cs,hsa,hbw,hcl,hC,ho1,hRP⟩:=HQR.o _ hlt2;subst hsa;have HRP:=Hd hRP;obtain⟨c,rfl,hRX⟩:=hRP;have HXX:=Hd (HX0.o _ hRX);obtain⟨x5,rfl,h5⟩:=RX_iff.1 hRX;have o5:=h5.oneCell;obtain⟨d0,d1,d2,d3,d4,d5,d6,d7⟩:=(hC.ext hec.cx.ext).get8;obtain⟨W4,hW4,hx4,hb4⟩:=q7r wr (.string of.ports[k2].name) (.bool of.ports[k2].o) (.int .i64 of.ports[k2].w.op) (.string of.ports[k2].w.name) (.int .i64 of.ports[k2].w.n) (.int .i64 of.ports[k2].w.w) (.int .u64 of.ports[k2].w.v) x5 42;obtain⟨e4,he4⟩:=y1h (W:=W4) (w:=W4) (y1g _);have hV4:=hW4.symm.trans he4;obtain⟨p0,p1,p2,p3,p4,p5,p6,p7⟩:=hb4.later8;have H4:=Hd (HE.o.ext hx4);have X4:=Hd hx4;obtain⟨vs',vp',vc',ve,hmk4,hsc4⟩:=H4.o.ex;have HSC:=Hd hsc4;have HMK:=Hd hmk4;have HG:=Hd H4.o.gd.env;have hsm:=hec.mlt.2.2.2.1;have hsg:=hec.inv.sg;have hb0:=hec.inv.b0;have hb1:=hec.inv.b1;have hpl:s2.path.size≤1000000000:=by rw[hpe];exact hpath
     generalize of.ports[k2]=p at*;have KW:=Hd (fun(w':World) (hw:Ext W4 w')=>z8r W0 B p.w _ sb' mp' ve s2 w' (H4.o.cx.later hw) HXX.o (HSC.o.ext hw) HG.o);have KK:=Hd (fun(w':World) (hw:Ext W4 w')=>HKD.o p w' _ (H4.o.cx.ext.trans hw) HRP.o);clear hW4 hx4 hb4 hC hRX h5 ho1 hfr hel hmk4 hsc4 hec hR he4 hpe;go_wp2_with fail
     refine z0m 11 (W:=W4) (Ext) (evF 7 99 (z2q s2 p.w) (fun a=>.int .i64 a) (fun a v w'=>True) [.pointer (some ⟨mb,0,none⟩),.pointer (some ⟨sb',0,none⟩),.pointer (some ⟨wr.heap.size,0,none⟩),.string p.name,.pointer (some ⟨sb',0,none⟩),.pointer (some ⟨wr.heap.size,2,none⟩),.agg #[.int .i64 p.w.op,.string p.w.name,.int .i64 p.w.n,.int .i64 p.w.w,.int .u64 p.w.v,x5],undef,.func (.func fk) #[] #[],.agg #[.string p.name,.bool p.o,.int .i64 p.w.op,.string p.w.name,.int .i64 p.w.n,.int .i64 p.w.w,.int .u64 p.w.v,x5],.int .i64 (kind p)]) (evP (z2q s2 p.w) W4) (fun _=>true) (by kernel_rfl) (z0s) (by kernel_rfl) (by kernel_rfl) ?_ (y1i e4) (fun i v w w' h hx=>z9p (fun _ _ _ _ h _=>h) h hx) ?_ (fun A ch wz hd hp=>by
      obtain⟨c,hr,rfl,hx⟩:=hp;obtain⟨ta,da⟩:=A;simp only at hd;subst hd;have HN:=Hd (show RunsP R (HdR W0 B N0 mb vf of.params.length path w) (FrI N0 mb sb mp w) (.panicked (z2c c)) wz from .no (by rw[HRR.o,hr];rfl) (BIG.o _ (HFR.o.trans (.of_ext (X4.o.trans hx))) _ _));exact⟨rfl,HN.o⟩) ?_
     ·exact⟨rfl,rfl,rfl,rfl,rfl,rfl,rfl,rfl,rfl,rfl,rfl,trivial⟩
     ·refine⟨?_,?_,?_,?_,?_,?_,?_,?_,?_,?_,?_,trivial⟩;rotate_left 7
      ·intro A wa hxa hd h0;obtain⟨ea,rfl⟩:=y1h hxa;have q4:=z0d hd 4 63 (by kernel_rfl) rfl;simp[evF] at q4;have q6:=z0d hd 6 65 (by kernel_rfl) rfl;simp[evF] at q6;clear hd h0;go_simp;refine(KW.o ea.w ea.ext).mono ?_;rintro e wk (⟨a,u,hr,rfl,rfl,hxk⟩|⟨c,hr,rfl,hxk⟩);rotate_left
       ·exact⟨rfl,c,hr,rfl,ea.ext.trans hxk⟩
       have HR:=Hd hr;clear hr;go_simp;first|exact⟨_,rfl,hxk,a,HR.o,rfl⟩|exact⟨hxk,a,HR.o,rfl⟩|exact⟨_,rfl,a,HR.o,rfl⟩
      rotate_left 2
      ·intro A wa hxa hd h0;obtain⟨ea,rfl⟩:=y1h hxa;have q8:=z0d hd 8 67 (by kernel_rfl) rfl;simp[evF] at q8;have q9:=z0d hd 9 68 (by kernel_rfl) rfl;simp[evF] at q9;clear hd h0;go_simp;refine(KK.o ea.w ea.ext).mono ?_;rintro _ wk ⟨rfl,hx⟩;go_simp;first|exact⟨_,rfl,hx,rfl⟩|exact⟨hx,rfl⟩|exact⟨_,rfl,rfl⟩|exact hx
      all_goals
       intro A wa hxa hd h0;obtain⟨ea,rfl⟩:=y1h hxa;try (have q2:=z0d hd 2 61 (by decide) rfl;simp[evF] at q2)
       try (have q5:=z0d hd 5 64 (by decide) rfl;simp[evF] at q5)
       have r0:=z0c h0 0 (by kernel_rfl);simp at r0;have r11:=z0c h0 11 (by kernel_rfl);simp at r11;have r17:=z0c h0 17 (by kernel_rfl);simp at r17;have r4:=z0c h0 4 (by kernel_rfl);simp at r4;clear hd h0;go_simp;first|exact⟨_,rfl,y1g _,rfl⟩|exact⟨y1g _,rfl⟩|exact rfl|exact⟨_,rfl,rfl⟩|exact y1g _
     ·intro A wa hk;obtain⟨f,rfl,hxa,hdn,hrs⟩:=hk.fin (n:=73) rfl;obtain⟨ea,rfl⟩:=y1h hxa;have k0:=hrs 0 (by kernel_rfl);have k1:=hrs 1 (by kernel_rfl);have k2:=hrs 2 (by kernel_rfl);have k3:=hrs 3 (by kernel_rfl);have k4:=hrs 4 (by kernel_rfl);have k5:=hrs 5 (by kernel_rfl);have k6:=hrs 6 (by kernel_rfl);have k7:=hrs 7 (by kernel_rfl);have k8:=hrs 8 (by kernel_rfl);have k9:=hrs 9 (by kernel_rfl);have k10:=hrs 10 (by kernel_rfl);have k11:=hrs 11 (by kernel_rfl);have k12:=hrs 12 (by kernel_rfl);have k13:=hrs 13 (by kernel_rfl);have k14:=hrs 14 (by kernel_rfl);have k15:=hrs 15 (by kernel_rfl);have k16:=hrs 16 (by kernel_rfl);have k18:=hrs 18 (by kernel_rfl);have k19:=hrs 19 (by kernel_rfl);have k20:=hrs 20 (by kernel_rfl);have k21:=hrs 21 (by kernel_rfl);have k22:=hrs 22 (by kernel_rfl);have k23:=hrs 23 (by kernel_rfl);have k24:=hrs 24 (by kernel_rfl);have k25:=hrs 25 (by kernel_rfl);have k26:=hrs 26 (by kernel_rfl);have k27:=hrs 27 (by kernel_rfl);have k28:=hrs 28 (by kernel_rfl);have k29:=hrs 29 (by kernel_rfl);have k30:=hrs 30 (by kernel_rfl);have k31:=hrs 31 (by kernel_rfl);have k32:=hrs 32 (by kernel_rfl);have k33:=hrs 33 (by kernel_rfl);have k34:=hrs 34 (by kernel_rfl);have k35:=hrs 35 (by kernel_rfl);have k36:=hrs 36 (by kernel_rfl);have k37:=hrs 37 (by kernel_rfl);have k38:=hrs 38 (by kernel_rfl);have k39:=hrs 39 (by kernel_rfl);have k40:=hrs 40 (by kernel_rfl);have k41:=hrs 41 (by kernel_rfl);have k42:=hrs 42 (by kernel_rfl);have k43:=hrs 43 (by kernel_rfl);have k44:=hrs 44 (by kernel_rfl);have k45:=hrs 45 (by kernel_rfl);have k46:=hrs 46 (by kernel_rfl);have k47:=hrs 47 (by kernel_rfl);have k48:=hrs 48 (by kernel_rfl);have k49:=hrs 49 (by kernel_rfl);have k50:=hrs 50 (by kernel_rfl);have k51:=hrs 51 (by kernel_rfl);have k52:=hrs 52 (by kernel_rfl);have k53:=hrs 53 (by kernel_rfl);have k54:=hrs 54 (by kernel_rfl);have k55:=hrs 55 (by kernel_rfl);have k71:=hrs 71 (by kernel_rfl);have k72:=hrs 72 (by kernel_rfl);have k59:f 59=.pointer (some ⟨mb,0,none⟩):=hdn 0 59 rfl rfl;have k60:f 60=.pointer (some ⟨sb',0,none⟩):=hdn 1 60 rfl rfl;have k62:f 62=.string p.name:=hdn 3 62 rfl rfl;have k69:f 69=.int .i64 (kind p):=hdn 10 69 rfl rfl;obtain⟨wd,hr7,k66⟩:=hdn 7 66 rfl rfl;clear hdn hrs;simp at k0 k1 k2 k3 k4 k5 k6 k7 k8 k9 k10 k11 k12 k13 k14 k15 k16 k18 k19 k20 k21 k22 k23 k24 k25 k26 k27 k28 k29 k30 k31 k32 k33 k34 k35 k36 k37 k38 k39 k40 k41 k42 k43 k44 k45 k46 k47 k48 k49 k50 k51 k52 k53 k54 k55 k71 k72;simp only[List.drop_succ_cons,List.drop_zero];simp[List.range,List.range.loop,k0,k1,k2,k3,k4,k5,k6,k7,k8,k9,k10,k11,k12,k13,k14,k15,k16,k18,k19,k20,k21,k22,k23,k24,k25,k26,k27,k28,k29,k30,k31,k32,k33,k34,k35,k36,k37,k38,k39,k40,k41,k42,k43,k44,k45,k46,k47,k48,k49,k50,k51,k52,k53,k54,k55,k71,k72,k59,k60,k62,k69,k66];clear k0 k1 k2 k3 k4 k5 k6 k7 k8 k9 k10 k11 k12 k13 k14 k15 k16 k18 k19 k20 k21 k22 k23 k24 k25 k26 k27 k28 k29 k30 k31 k32 k33 k34 k35 k36 k37 k38 k39 k40 k41 k42 k43 k44 k45 k46 k47 k48 k49 k50 k51 k52 k53 k54 k55 k71 k72 k59 k60 k62 k69 k66;have HWI:=Hd (q3n hr7);have hwi:=HWI.o;have HR7:=Hd hr7;have KS:=Hd (q1i N0 mb sb' mp' vf vs' vp' vc' ve m2 s2 p.name wd (kind p) 0 ea.w (HMK.o.ext ea.ext) (HSC.o.ext ea.ext) hsm hsg hb0 hb1 (by omega) (by omega) hpl hnms);clear hr7;go_wp2_with fail
      go_at_call 73;refine KS.o.mono ?_;rintro e w6 (⟨r,u,hr,rfl,rfl,⟨vs',vp',vc',hmk,hfr⟩,⟨ve',hsc⟩⟩|⟨c,hr,rfl,hfr⟩);rotate_left
      ·exact⟨rfl,.no (by rw[HRR.o,HR7.o];simp only[bind,Except.bind];rw[hr]) (BIG.o _ ((HFR.o.trans (.of_ext (X4.o.trans ea.ext))).trans hfr) _ _)⟩
      have HF6:=Hd (HFR.o.trans ((y1z (X4.o.trans ea.ext)).trans hfr));have HI6:=Hd (HE.o.frI ((y1z (X4.o.trans ea.ext)).trans hfr) hmk hsc (HE.o.gd.signal hr HWI.o) (HE.o.inv.signal hr HWI.o));have HS6:=Hd (z3p hr).1;have HR6:=Hd (show R=z3v kind (of.ports.drop (k2+1)) r.1 r.2 by rw[HRR.o,HR7.o];simp only[bind,Except.bind];rw[hr]);have HP6:=Hd (show r.1.env.length≤of.params.length∧r.1.path=path by rw[HS6.o];exact⟨hel9.o,HPE.o⟩);clear hmk hsc hfr hr;go_wp2_with fail
      go_roundw;case rel=>exact⟨k2+1,r.1,r.2,by omega,by go_num,HI6.o,HF6.o,HP6.o.1,HP6.o.2,HR6.o⟩
      case measure=>simp[intOf];omega
    ·have hkq:k2=of.ports.length:=by omega
     have HRR:=Hd (show R=.ok (s2,m2) by rw[hR,hkq,List.drop_length];rfl);have HEL:=Hd hel;clear hR hec hfr hpe hel;go_wp2_with fail
     refine bodyPost_ret (v:=.pointer (some ⟨sb',0,none⟩)) ?_ rfl (.ok HRR.o ⟨sb',mp',rfl,by omega,by omega,HE.o,BIG.o _ HFR.o,HPE.o,HEL.o⟩);simp[results,results37,go_sem]
end Go.Proofs.YtlfmlodanoolhaaGreatDoor
