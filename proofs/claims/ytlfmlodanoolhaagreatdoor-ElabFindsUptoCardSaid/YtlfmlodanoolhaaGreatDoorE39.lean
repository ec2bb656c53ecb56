import Derived.Test.YtlfmlodanoolhaaGreatDoorE38
set_option linter.all false
set_option maxRecDepth 200000
set_option maxHeartbeats 32000000
namespace Go.Proofs.YtlfmlodanoolhaaGreatDoor
open Go Go.RowKit Go.Proofs.Tryz
attribute [local go_sem] z0f
theorem k3r{env:List (ByteArray×Int)}{s:ByteArray}{z:Int}:z3m env s=some z→∃p,p∈env∧p.2=z:=by
 refine k2k (P:=fun env=>z3m env s=some z→∃p,p∈env∧p.2=z) (fun h=>by cases h) (fun l a ih h=>?_) env;rw[q5t] at h;split at h
 ·injection h with h;exact⟨a,y2e.2 (.inr (y2d.2 rfl)),h⟩
 ·obtain⟨p,hp,hz⟩:=ih h;exact⟨p,y2e.2 (.inl hp),hz⟩
theorem k0s(W0:World)(B N0 mb sb mp:Nat)(vf vs vp vc ve:Value)(m:Mk)(s:Sc)(x:X)(cs:List Value)(w:World)(hc:Cx W0 B w)(hX:XOk W0 B x cs)(h:MkI w N0 mb vf vs vp vc m)(hs:ScI w sb mp ve s)(hg:Good m.d.sigs s)(hop:x.op=2):
 z9b Tryz.prog 150 #[.pointer (some ⟨mb,0,none⟩),.pointer (some ⟨sb,0,none⟩),.agg cs.toArray] w (z1f m.d.sigs s x) (z5n w) (Ext w):=by
 have HC:=Hd hc;have HX:=Hd hX;have HM:=Hd h;have HS:=Hd hs;have HG:=Hd hg;have hln:=hg.env;obtain⟨x5,rfl,h5⟩:=RX_iff.1 hX.rx;have o5:=h5.oneCell;have HD:=Hd (show z1f m.d.sigs s x=(match z3m s.env x.name with|some v=>.ok (q2x 0 v,1)|none=>(do let r←z5q m.d.sigs s x;return(k2l r,1))) by rw[z3j];unfold q0s;rw[if_neg (by omega),if_pos hop];cases z3m s.env x.name<;>rfl);obtain⟨W1,hW1,hx1,hb1⟩:=z6v w (.int .i64 2) (.string x.name) (.int .i64 x.n) (.int .i64 x.w) (.int .u64 x.v) x5 40;obtain⟨W2,hW2,hx2,hb2⟩:=q0y W1 (.int .i64 0) (.int .i64 0) (.int .u64 0) (.int .i64 0) (.int .i64 0) (.int .i64 0) (.int .i64 0) (.slice none 0 0) (.int .i64 0) 203;have hV1:=hW1.symm;have hgw:w.heap.size≤W1.heap.size:=hx1.size;obtain⟨c0,c1,c2,c3,c4,c5⟩:=(hb1.ext hx2).later6;obtain⟨e2,he2⟩:=y1h (W:=W2) (w:=W2) (y1g _);have hV2:=hW2.symm.trans he2;have X2:=Hd (hx1.trans hx2);have y0:=cellAt ((hx1.trans hx2).at_ (h.blk.cell 0));have z0:∀e:Later W2,e.w.cell? ⟨sb,0,none⟩=some ve:=cellAt ((hx1.trans hx2).at_ (hs.blk.cell 0));have ov:=hs.env.oneCell;have HB2:=Hd hb2;have KL:=Hd (fun(w':World) (hw:Ext w w')=>j1n w'.heap.size s.env x.name w' ve ((SlT.keep HS.o.env (.inr (.inr rfl)) hw.kp (fun _ _ _ h=>h)).sl) (y1j _) (by omega));have KB:=Hd (fun(w':World) (hw:Ext w w')=>q2f W0 B N0 mb sb mp vf _ vp vc ve m s x _ w' (HC.o.later hw) HX.o (HM.o.ext hw) (HS.o.ext hw) HG.o (fun hne=>absurd hop hne));rw[hop] at KB;obtain⟨q,hq⟩:∃q,q=z3m s.env x.name:=⟨_,rfl⟩;rw[←hq] at KL HD;have hq:∀z,q=some z→0≤z∧z≤9223372036854775807:=fun z hz=>by
  obtain⟨p,hp,hpz⟩:=k3r (hq.symm.trans hz);have h1:=hg.const p hp;rw[hpz] at h1;unfold z1j at h1;omega
 clear he2 hW1 hW2 hx1 hx2 hb1 hb2 h5 hX h hs hg hc hln;have hmf:=@hmf_ Tryz.prog;rw[hop];clear hop y0
 go_enter_defers func150,ntmps150
 go_wp2_with fail
 refine z0m 12 (W:=W2) (Ext) (eqG [.pointer (some ⟨sb,0,none⟩),.pointer (some ⟨sb,0,none⟩),.pointer (some ⟨sb,0,none⟩),ve,.pointer (some ⟨w.heap.size,1,none⟩),.string x.name,.tuple #[.int .i64 (q.getD 0),.bool q.isSome],.tuple #[.int .i64 (q.getD 0),.bool q.isSome],.int .i64 (q.getD 0),.bool q.isSome,.int .i64 (q.getD 0),.bool q.isSome]) (fun _ _=>False) (fun _=>true) (by kernel_rfl) (z0s) (by kernel_rfl) (by kernel_rfl) ?_ (y1i e2) (fun i v w w' h hx=>z7l h hx) ?_ (fun A ch w hd hp=>hp.elim) ?_
 ·exact⟨rfl,rfl,rfl,rfl,rfl,rfl,rfl,rfl,rfl,rfl,rfl,rfl,trivial⟩
 ·refine⟨?_,?_,?_,?_,?_,?_,?_,?_,?_,?_,?_,?_,trivial⟩
  ·intro A wa hxa hd h0;obtain⟨ea,rfl⟩:=y1h hxa;have r1:=z0c h0 1 (by kernel_rfl);simp at r1;clear hd h0;go_simp;first|exact⟨_,rfl,y1g _,rfl⟩|exact⟨y1g _,rfl⟩|exact rfl|exact⟨_,rfl,rfl⟩|exact y1g _
  ·intro A wa hxa hd h0;obtain⟨ea,rfl⟩:=y1h hxa;have q0:=z0d hd 0 36 (by kernel_rfl) rfl;simp[eqG] at q0;clear hd h0;go_simp;first|exact⟨_,rfl,y1g _,rfl⟩|exact⟨y1g _,rfl⟩|exact rfl|exact⟨_,rfl,rfl⟩|exact y1g _
  ·intro A wa hxa hd h0;obtain⟨ea,rfl⟩:=y1h hxa;have q1:=z0d hd 1 37 (by kernel_rfl) rfl;simp[eqG] at q1;clear hd h0;go_simp;first|exact⟨_,rfl,y1g _,rfl⟩|exact⟨y1g _,rfl⟩|exact rfl|exact⟨_,rfl,rfl⟩|exact y1g _
  ·intro A wa hxa hd h0;obtain⟨ea,rfl⟩:=y1h hxa;have q2:=z0d hd 2 38 (by kernel_rfl) rfl;simp[eqG] at q2;clear hd h0;go_simp;first|exact⟨_,rfl,y1g _,rfl⟩|exact⟨y1g _,rfl⟩|exact rfl|exact⟨_,rfl,rfl⟩|exact y1g _
  ·intro A wa hxa hd h0;obtain⟨ea,rfl⟩:=y1h hxa;have r5:=z0c h0 5 (by kernel_rfl);simp at r5;clear hd h0;go_simp;first|exact⟨_,rfl,y1g _,rfl⟩|exact⟨y1g _,rfl⟩|exact rfl|exact⟨_,rfl,rfl⟩|exact y1g _
  ·intro A wa hxa hd h0;obtain⟨ea,rfl⟩:=y1h hxa;have q4:=z0d hd 4 40 (by kernel_rfl) rfl;simp[eqG] at q4;clear hd h0;go_simp;first|exact⟨_,rfl,y1g _,rfl⟩|exact⟨y1g _,rfl⟩|exact rfl|exact⟨_,rfl,rfl⟩|exact y1g _
  ·intro A wa hxa hd h0;obtain⟨ea,rfl⟩:=y1h hxa;have q3:=z0d hd 3 39 (by kernel_rfl) rfl;simp[eqG] at q3;have q5:=z0d hd 5 41 (by kernel_rfl) rfl;simp[eqG] at q5;clear hd h0;go_simp;refine(KL.o ea.w (X2.o.trans ea.ext)).mono ?_;rintro _ w2 ⟨rfl,hx⟩;go_simp;first|exact⟨_,rfl,hx,rfl⟩|exact⟨hx,rfl⟩|exact⟨hx,_,rfl,rfl⟩|exact⟨_,rfl,rfl⟩
  ·intro A wa hxa hd h0;obtain⟨ea,rfl⟩:=y1h hxa;have q6:=z0d hd 6 42 (by kernel_rfl) rfl;simp[eqG] at q6;clear hd h0;go_simp;first|exact⟨_,rfl,y1g _,rfl⟩|exact⟨y1g _,rfl⟩|exact rfl|exact⟨_,rfl,rfl⟩|exact y1g _
  ·intro A wa hxa hd h0;obtain⟨ea,rfl⟩:=y1h hxa;have q7:=z0d hd 7 35 (by kernel_rfl) rfl;simp[eqG] at q7;clear hd h0;go_simp;first|exact⟨_,rfl,y1g _,rfl⟩|exact⟨y1g _,rfl⟩|exact rfl|exact⟨_,rfl,rfl⟩|exact y1g _
  ·intro A wa hxa hd h0;obtain⟨ea,rfl⟩:=y1h hxa;have q7:=z0d hd 7 35 (by kernel_rfl) rfl;simp[eqG] at q7;clear hd h0;go_simp;first|exact⟨_,rfl,y1g _,rfl⟩|exact⟨y1g _,rfl⟩|exact rfl|exact⟨_,rfl,rfl⟩|exact y1g _
  ·intro A wa hxa hd h0;obtain⟨ea,rfl⟩:=y1h hxa;have q8:=z0d hd 8 43 (by kernel_rfl) rfl;simp[eqG] at q8;clear hd h0;go_simp;first|exact⟨_,rfl,y1g _,rfl⟩|exact⟨y1g _,rfl⟩|exact rfl|exact⟨_,rfl,rfl⟩|exact y1g _
  ·intro A wa hxa hd h0;obtain⟨ea,rfl⟩:=y1h hxa;have q9:=z0d hd 9 44 (by kernel_rfl) rfl;simp[eqG] at q9;clear hd h0;go_simp;first|exact⟨_,rfl,y1g _,rfl⟩|exact⟨y1g _,rfl⟩|exact rfl|exact⟨_,rfl,rfl⟩|exact y1g _
 ·intro A wa hk;obtain⟨hxa,hsz,hdf,hdn,hrs⟩:=hk;obtain⟨ea,rfl⟩:=y1h hxa;have k0:=z0c hrs 0 (by kernel_rfl);simp at k0;have k1:=z0c hrs 1 (by kernel_rfl);simp at k1;have k2:=z0c hrs 2 (by kernel_rfl);simp at k2;have k5:=z0c hrs 5 (by kernel_rfl);simp at k5;have k6:=z0c hrs 6 (by kernel_rfl);simp at k6;have k14:=z0c hrs 14 (by kernel_rfl);simp at k14;have k15:=z0c hrs 15 (by kernel_rfl);simp at k15;have k16:=z0c hrs 16 (by kernel_rfl);simp at k16;have k7:A.tmps.getD 7 undef=.int .i64 (q.getD 0):=hdn 10 7 rfl rfl;have k8:A.tmps.getD 8 undef=.bool q.isSome:=hdn 11 8 rfl rfl;clear hdn hrs;rw[z4x hsz hdf];obtain⟨fZ,hfZ,hfY⟩:=tmpsF A;simp only[hfZ,hfY] at k0 k1 k2 k5 k6 k14 k15 k16 k7 k8⊢;simp only[List.drop_succ_cons,List.drop_zero];simp[List.range,List.range.loop,k0,k1,k2,k5,k6,k14,k15,k16,k7,k8];clear k0 k1 k2 k5 k6 k14 k15 k16 k7 k8 hsz hdf;clear hfZ hfY;cases q with
  |none=>
   simp only[Option.getD_none,Option.isSome_none] at*;go_wp2_with fail
   go_at_call 183;refine(KB.o _ (X2.o.trans (y1i _))).mono ?_;rintro e w3 (⟨r,v,hr1,rfl,rfl,hx3⟩|⟨c,hr1,rfl,hx3⟩);rotate_left
   ·have h8:=(HB2.o.ext ((y1i ea).trans hx3)).cell 8;have HN:=Hd (show RunsP (z1f m.d.sigs s x) (z5n w) (Ext w) (.panicked (z2c c)) w3 from .no (by rw[HD.o,hr1];rfl) ((X2.o.trans (y1i _)).trans hx3));exact z3c (by simpa using h8) (by decide) HN.o
   obtain⟨r1,r2,r3⟩:=r;have HR:=Hd (show z1f m.d.sigs s x=.ok (k2l (r1,r2,r3),1) by rw[HD.o,hr1];rfl);have hb3:=HB2.o.ext ((y1i ea).trans hx3);have hx0:=(X2.o.trans (y1i _)).trans hx3;obtain⟨g0,g1,g2,g3,g4,g5,g6,g7,g8⟩:=hb3.get9;obtain⟨f0,f1,f2,f3,f4,f5,f6,f7,f8⟩:=hb3.free9;obtain⟨W9,hW9⟩:∃W9,W9=((((((((w3.setCell ⟨W1.heap.size,0,none⟩ (.int .i64 2)).setCell ⟨W1.heap.size,1,none⟩ (.int .i64 0)).setCell ⟨W1.heap.size,2,none⟩ (.int .u64 0)).setCell ⟨W1.heap.size,3,none⟩ (.int .i64 r1)).setCell ⟨W1.heap.size,4,none⟩ (.int .i64 r2)).setCell ⟨W1.heap.size,5,none⟩ (.int .i64 r3)).setCell ⟨W1.heap.size,6,none⟩ (.int .i64 0)).setCell ⟨W1.heap.size,7,none⟩ (.slice none 0 0)).setCell ⟨W1.heap.size,8,none⟩ (.int .i64 1):=⟨_,rfl⟩;have hV9:=hW9.symm;have HB9:=Hd (show Blk W9 W1.heap.size 203 [.int .i64 2,.int .i64 0,.int .u64 0,.int .i64 r1,.int .i64 r2,.int .i64 r3,.int .i64 0,.slice none 0 0,.int .i64 1] by rw[hW9];exact hb3.store9 _ _ _ _ _ _ _ _ _);have HX9:=Hd (show Ext w W9 by rw[hW9];exact((((((((hx0.setCell hgw _).setCell hgw _).setCell hgw _).setCell hgw _).setCell hgw _).setCell hgw _).setCell hgw _).setCell hgw _).setCell hgw _);clear hx3 hx0 hb3 hW9 hr1;go_wp2_with fail
   refine z5x rfl HB9.o (fun _=>?_) (fun h=>absurd (by decide) h);exact .ok HR.o ⟨[.int .i64 2,.int .i64 0,.int .u64 0,.int .i64 r1,.int .i64 r2,.int .i64 r3,.int .i64 0,.slice none 0 0],rfl,RE9.leaf _ _ _ _ _ _ _,HX9.o,(show(0:Int)≤1 by decide),(show(1:Int)≤65537 by decide)⟩
  |some z=>
   simp only[Option.getD_some,Option.isSome_some] at*;have hz:=hq z rfl;have hb3:=HB2.o.ext (y1i ea);have hx0:=X2.o.trans (y1i ea);have HR:=Hd (show z1f m.d.sigs s x=.ok (q2x 0 z,1) from HD.o);obtain⟨g0,g1,g2,g3,g4,g5,g6,g7,g8⟩:=hb3.get9;obtain⟨f0,f1,f2,f3,f4,f5,f6,f7,f8⟩:=hb3.free9;obtain⟨W9,hW9⟩:∃W9,W9=((((((((ea.w.setCell ⟨W1.heap.size,0,none⟩ (.int .i64 1)).setCell ⟨W1.heap.size,1,none⟩ (.int .i64 0)).setCell ⟨W1.heap.size,2,none⟩ (.int .u64 z)).setCell ⟨W1.heap.size,3,none⟩ (.int .i64 0)).setCell ⟨W1.heap.size,4,none⟩ (.int .i64 0)).setCell ⟨W1.heap.size,5,none⟩ (.int .i64 0)).setCell ⟨W1.heap.size,6,none⟩ (.int .i64 0)).setCell ⟨W1.heap.size,7,none⟩ (.slice none 0 0)).setCell ⟨W1.heap.size,8,none⟩ (.int .i64 1):=⟨_,rfl⟩;have hV9:=hW9.symm;have HB9:=Hd (show Blk W9 W1.heap.size 203 [.int .i64 1,.int .i64 0,.int .u64 z,.int .i64 0,.int .i64 0,.int .i64 0,.int .i64 0,.slice none 0 0,.int .i64 1] by rw[hW9];exact hb3.store9 _ _ _ _ _ _ _ _ _);have HX9:=Hd (show Ext w W9 by rw[hW9];exact((((((((hx0.setCell hgw _).setCell hgw _).setCell hgw _).setCell hgw _).setCell hgw _).setCell hgw _).setCell hgw _).setCell hgw _).setCell hgw _);clear hx0 hb3 hW9 HD;have hz2:z≤18446744073709551615:=by omega
   go_wp2_with fail
   refine z5x rfl HB9.o (fun _=>?_) (fun h=>absurd (by decide) h);exact .ok HR.o ⟨[.int .i64 1,.int .i64 0,.int .u64 z,.int .i64 0,.int .i64 0,.int .i64 0,.int .i64 0,.slice none 0 0],rfl,RE9.leaf _ _ _ _ _ _ _,HX9.o,(show(0:Int)≤1 by decide),(show(1:Int)≤65537 by decide)⟩
def q3e(k1 k2 k3:Nat)(r:Rs Int)(f:Int→Value)(q:Int→Rs (DE×Int))(W:World)(vals:List Value)(i:Nat)(v:Value)(w:World):Prop:=
 if i=k1 then∃a,r=.ok a∧v=.int .i64 a
 else if i=k2 then∃a,r=.ok a∧v=f a
 else if i=k3 then∃a y c,r=.ok a∧q a=.ok y∧v=.agg (c++[.int .i64 y.2]).toArray∧RE9 (fun b=>W.heap.size≤b) w y.1 c∧0≤y.2∧y.2≤65537
 else v=vals.getD i undef
theorem j4c{k1 k2 k3:Nat}{r:Rs Int}{f:Int→Value}{q:Int→Rs (DE×Int)}{W:World}{vals:List Value}{i:Nat}{v:Value}{w w':World}(h:q3e k1 k2 k3 r f q W vals i v w)(hx:Ext w w'):q3e k1 k2 k3 r f q W vals i v w':=by
 unfold q3e at h⊢;split
 ·rename_i hi;rw[if_pos hi] at h;exact h
 ·rename_i hi
  rw[if_neg hi] at h;split
  ·rename_i hi;rw[if_pos hi] at h;exact h
  ·rename_i hi
   rw[if_neg hi] at h;split
   ·rename_i hi
    rw[if_pos hi] at h;obtain⟨a,y,c,h1,h2,h3,h4,h5⟩:=h;exact⟨a,y,c,h1,h2,h3,h4.ext hx,h5⟩
   ·rename_i hi;rw[if_neg hi] at h;exact h
def expP(r:Rs Int)(q:Int→Rs (DE×Int))(W:World)(ch:List PanicEntry)(w:World):Prop:=∃c,(do let a←r;q a)=.error c∧ch=z2c c∧Ext W w
theorem q3d{y:DE×Int}(h:y.2≤65536):z5i y=.ok y:=by unfold z5i;rw[if_pos h]
theorem q0g{y:DE×Int}(h:¬y.2≤65536):z5i y=.error 2:=by unfold z5i;rw[if_neg h]
theorem k0q(W0:World)(B N0 mb sb mp:Nat)(vf vs vp vc ve:Value)(m:Mk)(s:Sc)(x:X)(cs:List Value)(w:World)(hc:Cx W0 B w)(hX:XOk W0 B x cs)(h:MkI w N0 mb vf vs vp vc m)(hs:ScI w sb mp ve s)(hop:x.op=4)(hln:x.l.length≤1000000000)
 (hf:∀y,y∈x.l→∀(w':World) (cs:List Value),Ext w w'→RX W0 B y cs→z9b Tryz.prog 150 #[.pointer (some ⟨mb,0,none⟩),.pointer (some ⟨sb,0,none⟩),.agg cs.toArray] w' (z1f m.d.sigs s y) (z5n w') (Ext w')):
 z9b Tryz.prog 150 #[.pointer (some ⟨mb,0,none⟩),.pointer (some ⟨sb,0,none⟩),.agg cs.toArray] w (z1f m.d.sigs s x) (z5n w) (Ext w):=by
 have HC:=Hd hc;have HS:=Hd hs;have HF:=Hd hf;obtain⟨x5,rfl,h5⟩:=RX_iff.1 hX.rx;have H5:=Hd h5;have o5:=h5.oneCell;obtain⟨rk,hrk⟩:∃rk,rk=z6n s x.name:=⟨_,rfl⟩;obtain⟨E,hE⟩:∃E,E=z1f m.d.sigs s:=⟨_,rfl⟩;obtain⟨qq,hqq⟩:∃qq:Int→Rs (DE×Int),qq=fun a=>(do let z←z4g (x.l.map E) 1;return(DE.mk 3 0 0 a 0 0 0 z.1,z.2)):=⟨_,rfl⟩
 have HD:=Hd (show z1f m.d.sigs s x=(do let y←(do let a←rk;qq a);z5i y) by
  rw[z3j,hqq,hrk,hE];unfold q0s;rw[if_neg (by omega),if_neg (by omega),if_neg (by omega),if_pos hop];cases z6n s x.name with
  |error e=>rfl
  |ok a=>
   simp only[bind,Except.bind,pure,Except.pure];cases z4g (x.l.map (z1f m.d.sigs s)) 1<;>rfl)
 obtain⟨W1,hW1,hx1,hb1⟩:=z6v w (.int .i64 4) (.string x.name) (.int .i64 x.n) (.int .i64 x.w) (.int .u64 x.v) x5 40;obtain⟨W2,hW2,hx2,hb2⟩:=q0y W1 (.int .i64 0) (.int .i64 0) (.int .u64 0) (.int .i64 0) (.int .i64 0) (.int .i64 0) (.int .i64 0) (.slice none 0 0) (.int .i64 0) 203;have hV1:=hW1.symm;have hgw:w.heap.size≤W1.heap.size:=hx1.size;obtain⟨c0,c1,c2,c3,c4,c5⟩:=(hb1.ext hx2).later6;obtain⟨e2,he2⟩:=y1h (W:=W2) (w:=W2) (y1g _);have hV2:=hW2.symm.trans he2;have X2:=Hd (hx1.trans hx2);have HB2:=Hd hb2;have KN:=Hd (fun(w':World) (hw:Ext w w')=>q8y sb mp ve s x.name w' (HS.o.ext hw));have KP:=Hd (fun(a:Int) (w':World) (hw:Ext w w')=>q3w W0 B (.pointer (some ⟨mb,0,none⟩)) (.pointer (some ⟨sb,0,none⟩)) (z1f m.d.sigs s) 3 0 0 a 0 0 0 x.l x5 w' H5.o HC.o.hB (HC.o.ext.trans hw) hln (fun y hy w'' cs h1 h2=>HF.o y hy w'' cs (hw.trans h1) h2));rw[←hE] at KP;rw[←hrk] at KN;have KP2:=Hd (fun(a:Int)=>congrFun hqq a);clear he2 hW1 hW2 hx1 hx2 hb1 hb2 h5 hX h hs hc hln hf hrk hE hqq;have hmf:=@hmf_ Tryz.prog;rw[hop];clear hop
 go_enter_defers func150,ntmps150
 go_wp2_with fail
 refine z0m 10 (W:=W2) (Ext) (q3e 5 6 9 rk (fun a=>.agg #[.int .i64 3,.int .i64 0,.int .u64 0,.int .i64 a,.int .i64 0,.int .i64 0,.int .i64 0,.slice none 0 0]) qq W2 [.pointer (some ⟨mb,0,none⟩),.pointer (some ⟨sb,0,none⟩),.pointer (some ⟨sb,0,none⟩),.pointer (some ⟨w.heap.size,1,none⟩),.string x.name,undef,undef,.pointer (some ⟨w.heap.size,5,none⟩),x5,undef]) (expP rk qq W2) (fun _=>true) (by kernel_rfl) (z0s) (by kernel_rfl) (by kernel_rfl) ?_ (y1i e2) (fun i v w w' h hx=>j4c h hx) ?_ (fun A ch wz hd hp=>by
  obtain⟨c,hr,rfl,hx⟩:=hp;obtain⟨ta,da⟩:=A;simp only at hd;subst hd;have h8:=(HB2.o.ext hx).cell 8;have HN:=Hd (show RunsP (z1f m.d.sigs s x) (z5n w) (Ext w) (.panicked (z2c c)) wz from .no (by rw[HD.o,hr];rfl) (X2.o.trans hx));exact z3c (by simpa using h8) (by decide) HN.o) ?_
 ·exact⟨rfl,rfl,rfl,rfl,rfl,rfl,rfl,rfl,rfl,rfl,trivial⟩
 ·refine⟨?_,?_,?_,?_,?_,?_,?_,?_,?_,?_,trivial⟩;rotate_left 5
  ·intro A wa hxa hd h0;obtain⟨ea,rfl⟩:=y1h hxa;have q2:=z0d hd 2 65 (by kernel_rfl) rfl;simp[q3e] at q2;have q4:=z0d hd 4 67 (by kernel_rfl) rfl;simp[q3e] at q4;clear hd h0;go_simp;refine(KN.o ea.w (X2.o.trans ea.ext)).mono ?_;rintro e w3 (⟨a,u,hr,rfl,rfl,rfl⟩|⟨c,hr,rfl,rfl⟩);rotate_left
   ·exact⟨rfl,c,by rw[hr];rfl,rfl,ea.ext⟩
   have HR:=Hd hr;clear hr;go_simp;first|exact⟨_,rfl,y1g _,a,HR.o,rfl⟩|exact⟨y1g _,a,HR.o,rfl⟩|exact⟨_,rfl,a,HR.o,rfl⟩
  ·intro A wa hxa hd h0;obtain⟨ea,rfl⟩:=y1h hxa;obtain⟨a5,hr5,q5⟩:=z0d hd 5 68 (by kernel_rfl) rfl;simp at q5;have HR5:=Hd hr5;clear hr5;clear hd h0;go_simp;first|exact⟨_,rfl,y1g _,a5,HR5.o,rfl⟩|exact⟨y1g _,a5,HR5.o,rfl⟩|exact⟨_,rfl,a5,HR5.o,rfl⟩
  rotate_left 2
  ·intro A wa hxa hd h0;obtain⟨ea,rfl⟩:=y1h hxa;have q0:=z0d hd 0 63 (by kernel_rfl) rfl;simp[q3e] at q0;have q1:=z0d hd 1 64 (by kernel_rfl) rfl;simp[q3e] at q1;obtain⟨a6,hr6,q6⟩:=z0d hd 6 69 (by kernel_rfl) rfl;simp at q6;have HR6:=Hd hr6;clear hr6;have q8:=z0d hd 8 71 (by kernel_rfl) rfl;simp[q3e] at q8;clear hd h0;go_simp;refine(KP.o a6 ea.w (X2.o.trans ea.ext)).mono ?_;rintro e w3 (⟨y,u,hr,rfl,c,rfl,hre,hxe,hn0,hn1⟩|⟨c,hr,rfl,hxe⟩);rotate_left
   ·exact⟨rfl,c,by rw[HR6.o];exact(KP2.o a6).trans hr,rfl,ea.ext.trans hxe⟩
   have HRE:=Hd (y1x (hre.imp (fun b _ hb=>y1k ea.ext.size hb):RE9 (fun b=>W2.heap.size≤b) w3 y.1 c) (y1x hn0 hn1));have HR2:=Hd ((KP2.o a6).trans hr);clear hre hr hn0 hn1;go_simp;first|exact⟨_,rfl,hxe,a6,y,c,HR6.o,HR2.o,rfl,HRE.o⟩|exact⟨hxe,a6,y,c,HR6.o,HR2.o,rfl,HRE.o⟩|exact⟨_,rfl,a6,y,c,HR6.o,HR2.o,rfl,HRE.o⟩
  all_goals
   intro A wa hxa hd h0;obtain⟨ea,rfl⟩:=y1h hxa;try (have q3:=z0d hd 3 66 (by decide) rfl;simp[q3e] at q3)
   try (have q7:=z0d hd 7 70 (by decide) rfl;simp[q3e] at q7)
   have r0:=z0c h0 0 (by kernel_rfl);simp at r0;have r1:=z0c h0 1 (by kernel_rfl);simp at r1;have r5:=z0c h0 5 (by kernel_rfl);simp at r5;clear hd h0;go_simp;first|exact⟨_,rfl,y1g _,rfl⟩|exact⟨y1g _,rfl⟩|exact rfl|exact⟨_,rfl,rfl⟩|exact y1g _
 ·intro A wa hk;obtain⟨f,rfl,hxa,hdn,hrs⟩:=hk.fin (n:=133) rfl;obtain⟨ea,rfl⟩:=y1h hxa;have k6:=hrs 6 (by kernel_rfl);obtain⟨a,y,c,hr1,hr2,k72,hre,hn0,hn1⟩:=hdn 9 72 rfl rfl;clear hdn hrs;simp at k6;simp only[List.drop_succ_cons,List.drop_zero];simp[List.range,List.range.loop,k6,k72];clear k6 k72;obtain⟨vy,rfl,hsy⟩:=RE9_iff.1 hre;obtain⟨ya,yc,rfl⟩:=hsy.form;obtain⟨y1,y2⟩:=y;have hb3:=HB2.o.ext (y1i ea);have hx0:=X2.o.trans (y1i ea);have HQ:=Hd (show(do let a←rk;qq a)=.ok (y1,y2) from(by rw[hr1];exact hr2));obtain⟨g0,g1,g2,g3,g4,g5,g6,g7,g8⟩:=hb3.get9;obtain⟨f0,f1,f2,f3,f4,f5,f6,f7,f8⟩:=hb3.free9;obtain⟨W9,hW9⟩:∃W9,W9=((((((((ea.w.setCell ⟨W1.heap.size,0,none⟩ (.int .i64 y1.op)).setCell ⟨W1.heap.size,1,none⟩ (.int .i64 y1.w)).setCell ⟨W1.heap.size,2,none⟩ (.int .u64 y1.v)).setCell ⟨W1.heap.size,3,none⟩ (.int .i64 y1.sig)).setCell ⟨W1.heap.size,4,none⟩ (.int .i64 y1.hi)).setCell ⟨W1.heap.size,5,none⟩ (.int .i64 y1.lo)).setCell ⟨W1.heap.size,6,none⟩ (.int .i64 y1.n)).setCell ⟨W1.heap.size,7,none⟩ (.slice ya y1.l.length yc)).setCell ⟨W1.heap.size,8,none⟩ (.int .i64 y2):=⟨_,rfl⟩;have hV9:=hW9.symm;have HB9:=Hd (show Blk W9 W1.heap.size 203 [.int .i64 y1.op,.int .i64 y1.w,.int .u64 y1.v,.int .i64 y1.sig,.int .i64 y1.hi,.int .i64 y1.lo,.int .i64 y1.n,.slice ya y1.l.length yc,.int .i64 y2] by rw[hW9];exact hb3.store9 _ _ _ _ _ _ _ _ _);have HX9:=Hd (show Ext w W9 by rw[hW9];exact((((((((hx0.setCell hgw _).setCell hgw _).setCell hgw _).setCell hgw _).setCell hgw _).setCell hgw _).setCell hgw _).setCell hgw _).setCell hgw _);have HY9:=Hd (show RE9 (fun b=>w.heap.size≤b) W9 y1 [.int .i64 y1.op,.int .i64 y1.w,.int .u64 y1.v,.int .i64 y1.sig,.int .i64 y1.hi,.int .i64 y1.lo,.int .i64 y1.n,.slice ya y1.l.length yc] by
   rw[hW9];refine RE9.turn (X:=fun b=>b=W1.heap.size) ?_ (fun b hb hy=>⟨fun e=>?_,y1k X2.o.size hy⟩) y1 _ hre
   ·exact((((((((y1y (X:=fun b=>b=W1.heap.size) (y1u _ ea.w) (p:=⟨W1.heap.size,0,none⟩) rfl _).setCell (p:=⟨W1.heap.size,1,none⟩) rfl _).setCell (p:=⟨W1.heap.size,2,none⟩) rfl _).setCell (p:=⟨W1.heap.size,3,none⟩) rfl _).setCell (p:=⟨W1.heap.size,4,none⟩) rfl _).setCell (p:=⟨W1.heap.size,5,none⟩) rfl _).setCell (p:=⟨W1.heap.size,6,none⟩) rfl _).setCell (p:=⟨W1.heap.size,7,none⟩) rfl _).setCell (p:=⟨W1.heap.size,8,none⟩) rfl _
   ·exact absurd (hb.one (e▸hb3.tag)) (by decide))
  have HN2:=Hd (y1x hn0 hn1);clear hb3 hx0 hW9 hre hsy hr1 hr2 hn0 hn1;go_wp2_with fail
  refine z5x rfl HB9.o (fun hn=>?_) (fun hn=>?_)
  ·exact .ok (by rw[HD.o,HQ.o];exact q3d hn) ⟨_,rfl,HY9.o,HX9.o,HN2.o.1,HN2.o.2⟩
  ·exact .no (by rw[HD.o,HQ.o];exact q0g hn) HX9.o
theorem Sl.cut{α:Type}{R:α→List Value→Prop}{w:World}{B sz:Nat}{l:List α}{a:Option Addr}{cap lo hi:Nat}(h:Sl R w B sz l (.slice a l.length cap))(h1:lo≤hi)(h2:hi≤l.length):
 Sl R w B sz ((l.take hi).drop lo) (Go.sliced a lo hi cap sz):=by
 obtain⟨a',cap',he,hc,hr⟩:=h;obtain⟨rfl,-,rfl⟩:=Value.slice.inj he;refine⟨_,cap - lo,by unfold Go.sliced;rw[List.length_drop,List.length_take,Nat.min_eq_left h2],by rw[List.length_drop,List.length_take];omega,fun i hi=>?_⟩;rw[List.length_drop,List.length_take,Nat.min_eq_left h2] at hi;rw[List.getElem_drop,List.getElem_take];obtain⟨b,o,cs,rfl,hb,hl,hC,h3,hR⟩:=hr (lo+i) (by omega);rw[if_neg (by omega)];exact⟨b,o+lo*sz,cs,congrArg some (z4d b o (lo*sz)),hb,hl,by rw[show o+lo*sz+i*sz=o+(lo+i)*sz by rw[Nat.add_mul];omega];exact hC,h3,hR⟩
theorem j6c(W0:World)(B N0 mb sb mp:Nat)(vf vs vp vc ve:Value)(m:Mk)(s:Sc)(x:X)(cs:List Value)(w:World)(hc:Cx W0 B w)(hX:XOk W0 B x cs)(h:MkI w N0 mb vf vs vp vc m)(hs:ScI w sb mp ve s)(hg:Good m.d.sigs s)(hop:x.op=10)(hl0:0<x.l.length)(hln:x.l.length≤1000000000)
 (hf:∀y,y∈x.l→∀(w':World) (cs:List Value),Ext w w'→RX W0 B y cs→z9b Tryz.prog 150 #[.pointer (some ⟨mb,0,none⟩),.pointer (some ⟨sb,0,none⟩),.agg cs.toArray] w' (z1f m.d.sigs s y) (z5n w') (Ext w')):
 z9b Tryz.prog 150 #[.pointer (some ⟨mb,0,none⟩),.pointer (some ⟨sb,0,none⟩),.agg cs.toArray] w (z1f m.d.sigs s x) (z5n w) (Ext w):=by
 have HC:=Hd hc;have HS:=Hd hs;have HF:=Hd hf;obtain⟨x5,rfl,h5⟩:=RX_iff.1 hX.rx;obtain⟨la,lc,rfl,hlc,hlr⟩:=h5;have H5:=Hd (show Sl (RX W0 B) W0 B 6 x.l (.slice la x.l.length lc) from⟨la,lc,rfl,hlc,hlr⟩);obtain⟨b0,o0,t0,hla,hb0,hlt0,hC0,ho0,hR0⟩:=hlr 0 hl0;subst hla;obtain⟨x50,rfl,h50⟩:=RX_iff.1 hR0;simp only[Nat.zero_mul,Nat.add_zero] at hC0;have hxa:=z2m (k:=0) hl0;have HX0:=Hd (hX.part (y1l hl0) hR0);have HG:=Hd hg;have u0:=h50.oneCell;obtain⟨vz,hvz⟩:∃vz,vz=Go.sliced (some ⟨b0,o0,none⟩) 1 x.l.length lc 6:=⟨_,rfl⟩;have HVZ:=Hd (show Sl (RX W0 B) W0 B 6 (x.l.drop 1) vz from by have:=H5.o.cut (lo:=1) (hi:=x.l.length) hl0 (y1j _);rw[List.take_length] at this;rw[hvz];exact this);have HVE:=Hd (show Value.slice (if lc=1 then some ⟨b0,o0,none⟩ else some ⟨b0,o0+6,none⟩) (x.l.length - 1) (lc - 1)=vz from by
  rw[hvz];simp[Go.sliced,z4d])
 clear hvz;generalize hx0:x.l[0]=x0 at*;have hk1:(1:Int)≤(x.l.length:Int):=by omega
 have hk2:(x.l.length:Int)≤(lc:Int):=by omega
 have hk0:(0:Int)<(x.l.length:Int):=by omega
 obtain⟨rk,hrk⟩:∃rk,rk=z2q s x0:=⟨_,rfl⟩;obtain⟨E,hE⟩:∃E,E=z1f m.d.sigs s:=⟨_,rfl⟩;obtain⟨qq,hqq⟩:∃qq:Int→Rs (DE×Int),qq=fun a=>(do let z←z4g ((x.l.drop 1).map E) 1;return(DE.mk 8 a 0 0 0 0 x.n z.1,z.2)):=⟨_,rfl⟩
 have HD:=Hd (show z1f m.d.sigs s x=(do let y←(do let a←rk;qq a);z5i y) by
  rw[z3j,hqq,hrk,hE];unfold q0s;rw[if_neg (by omega),if_neg (by omega),if_neg (by omega),if_neg (by omega),if_neg (by omega),if_pos hop,show xAt x.l 0=x0 from hxa,←List.map_drop];cases z2q s x0 with
  |error e=>rfl
  |ok a=>
   simp only[bind,Except.bind,pure,Except.pure];cases z4g ((x.l.drop 1).map (z1f m.d.sigs s)) 1<;>rfl)
 obtain⟨W1,hW1,hx1,hb1⟩:=z6v w (.int .i64 10) (.string x.name) (.int .i64 x.n) (.int .i64 x.w) (.int .u64 x.v) (.slice (some ⟨b0,o0,none⟩) x.l.length lc) 40;obtain⟨W2,hW2,hx2,hb2⟩:=q0y W1 (.int .i64 0) (.int .i64 0) (.int .u64 0) (.int .i64 0) (.int .i64 0) (.int .i64 0) (.int .i64 0) (.slice none 0 0) (.int .i64 0) 203;have hV1:=hW1.symm;have hgw:w.heap.size≤W1.heap.size:=hx1.size;obtain⟨c0,c1,c2,c3,c4,c5⟩:=(hb1.ext hx2).later6;obtain⟨e2,he2⟩:=y1h (W:=W2) (w:=W2) (y1g _);have hV2:=hW2.symm.trans he2;have X2:=Hd (hx1.trans hx2);have HB2:=Hd hb2;have KN:=Hd (fun(w':World) (hw:Ext w w')=>z8r W0 B x0 _ sb mp ve s w' (HC.o.later hw) HX0.o (HS.o.ext hw) HG.o.env);have KP:=Hd (fun(a:Int) (w':World) (hw:Ext w w')=>q3w W0 B (.pointer (some ⟨mb,0,none⟩)) (.pointer (some ⟨sb,0,none⟩)) (z1f m.d.sigs s) 8 a 0 0 0 0 x.n (x.l.drop 1) vz w' HVZ.o HC.o.hB (HC.o.ext.trans hw) (by rw[List.length_drop];omega) (fun y hy w'' cs h1 h2=>HF.o y (List.mem_of_mem_drop hy) w'' cs (hw.trans h1) h2));rw[←hE] at KP;rw[←hrk] at KN;have KP2:=Hd (fun(a:Int)=>congrFun hqq a);obtain⟨d0,d1,d2,d3,d4,d5⟩:=(hC0.ext (hc.ext.trans (hx1.trans hx2))).later6;clear hlr hR0 h50 hlt0 hb0 hg hxa hx0 hC0 ho0 he2 hW1 hW2 hx1 hx2 hb1 hb2 hX h hs hc hln hf hrk hE hqq;have hmf:=@hmf_ Tryz.prog;rw[hop];clear hop
 go_enter_defers func150,ntmps150
 go_wp2_with fail
 refine z0m 15 (W:=W2) (Ext) (q3e 9 10 14 rk (fun a=>.agg #[.int .i64 8,.int .i64 a,.int .u64 0,.int .i64 0,.int .i64 0,.int .i64 0,.int .i64 x.n,.slice none 0 0]) qq W2 [.pointer (some ⟨mb,0,none⟩),.pointer (some ⟨sb,0,none⟩),.pointer (some ⟨w.heap.size,2,none⟩),.int .i64 x.n,.pointer (some ⟨sb,0,none⟩),.pointer (some ⟨w.heap.size,5,none⟩),.slice (some ⟨b0,o0,none⟩) x.l.length lc,.pointer (some ⟨b0,o0,none⟩),.agg #[.int .i64 x0.op,.string x0.name,.int .i64 x0.n,.int .i64 x0.w,.int .u64 x0.v,x50],undef,undef,.pointer (some ⟨w.heap.size,5,none⟩),.slice (some ⟨b0,o0,none⟩) x.l.length lc,vz,undef]) (expP rk qq W2) (fun _=>true) (by kernel_rfl) (z0s) (by kernel_rfl) (by kernel_rfl) ?_ (y1i e2) (fun i v w w' h hx=>j4c h hx) ?_ (fun A ch wz hd hp=>by
  obtain⟨c,hr,rfl,hx⟩:=hp;obtain⟨ta,da⟩:=A;simp only at hd;subst hd;have h8:=(HB2.o.ext hx).cell 8;have HN:=Hd (show RunsP (z1f m.d.sigs s x) (z5n w) (Ext w) (.panicked (z2c c)) wz from .no (by rw[HD.o,hr];rfl) (X2.o.trans hx));exact z3c (by simpa using h8) (by decide) HN.o) ?_
 ·exact⟨rfl,rfl,rfl,rfl,rfl,rfl,rfl,rfl,rfl,rfl,rfl,rfl,rfl,rfl,rfl,trivial⟩
 ·refine⟨?_,?_,?_,?_,?_,?_,?_,?_,?_,?_,?_,?_,?_,?_,?_,trivial⟩;rotate_left 9
  ·intro A wa hxa hd h0;obtain⟨ea,rfl⟩:=y1h hxa;have q4:=z0d hd 4 109 (by kernel_rfl) rfl;simp[q3e] at q4;have q8:=z0d hd 8 113 (by kernel_rfl) rfl;simp[q3e] at q8;clear hd h0;go_simp;refine(KN.o ea.w (X2.o.trans ea.ext)).mono ?_;rintro e w3 (⟨a,u,hr,rfl,rfl,hxk⟩|⟨c,hr,rfl,hxk⟩);rotate_left
   ·exact⟨rfl,c,by rw[hr];rfl,rfl,ea.ext.trans hxk⟩
   have HR:=Hd hr;clear hr;go_simp;first|exact⟨_,rfl,hxk,a,HR.o,rfl⟩|exact⟨hxk,a,HR.o,rfl⟩|exact⟨_,rfl,a,HR.o,rfl⟩
  ·intro A wa hxa hd h0;obtain⟨ea,rfl⟩:=y1h hxa;have q3:=z0d hd 3 108 (by kernel_rfl) rfl;simp[q3e] at q3;obtain⟨a5,hr5,q5⟩:=z0d hd 9 114 (by kernel_rfl) rfl;simp at q5;have HR5:=Hd hr5;clear hr5;clear hd h0;go_simp;first|exact⟨_,rfl,y1g _,a5,HR5.o,rfl⟩|exact⟨y1g _,a5,HR5.o,rfl⟩|exact⟨_,rfl,a5,HR5.o,rfl⟩
  rotate_left 2
  ·intro A wa hxa hd h0;obtain⟨ea,rfl⟩:=y1h hxa;have q12:=z0d hd 12 117 (by kernel_rfl) rfl;simp[q3e] at q12;clear hd h0;go_simp;first|exact⟨_,rfl,y1g _,HVE.o⟩
  ·intro A wa hxa hd h0;obtain⟨ea,rfl⟩:=y1h hxa;have q0:=z0d hd 0 105 (by kernel_rfl) rfl;simp[q3e] at q0;have q1:=z0d hd 1 106 (by kernel_rfl) rfl;simp[q3e] at q1;obtain⟨a6,hr6,q6⟩:=z0d hd 10 115 (by kernel_rfl) rfl;simp at q6;have HR6:=Hd hr6;clear hr6;have q13:=z0d hd 13 118 (by kernel_rfl) rfl;simp[q3e] at q13;clear hd h0;go_simp;refine(KP.o a6 ea.w (X2.o.trans ea.ext)).mono ?_;rintro e w3 (⟨y,u,hr,rfl,c,rfl,hre,hxe,hn0,hn1⟩|⟨c,hr,rfl,hxe⟩);rotate_left
   ·exact⟨rfl,c,by rw[HR6.o];exact(KP2.o a6).trans hr,rfl,ea.ext.trans hxe⟩
   have HRE:=Hd (y1x (hre.imp (fun b _ hb=>y1k ea.ext.size hb):RE9 (fun b=>W2.heap.size≤b) w3 y.1 c) (y1x hn0 hn1));have HR2:=Hd ((KP2.o a6).trans hr);clear hre hr hn0 hn1;go_simp;first|exact⟨_,rfl,hxe,a6,y,c,HR6.o,HR2.o,rfl,HRE.o⟩|exact⟨hxe,a6,y,c,HR6.o,HR2.o,rfl,HRE.o⟩|exact⟨_,rfl,a6,y,c,HR6.o,HR2.o,rfl,HRE.o⟩
  all_goals
   intro A wa hxa hd h0;obtain⟨ea,rfl⟩:=y1h hxa;try (have q2:=z0d hd 2 107 (by decide) rfl;simp[q3e] at q2)
   try (have q5:=z0d hd 5 110 (by decide) rfl;simp[q3e] at q5)
   try (have q6:=z0d hd 6 111 (by decide) rfl;simp[q3e] at q6)
   try (have q7:=z0d hd 7 112 (by decide) rfl;simp[q3e] at q7)
   try (have q11:=z0d hd 11 116 (by decide) rfl;simp[q3e] at q11)
   have r0:=z0c h0 0 (by kernel_rfl);simp at r0;have r1:=z0c h0 1 (by kernel_rfl);simp at r1;have r5:=z0c h0 5 (by kernel_rfl);simp at r5;clear hd h0;go_simp;first|exact⟨_,rfl,y1g _,rfl⟩|exact⟨y1g _,rfl⟩|exact rfl|exact⟨_,rfl,rfl⟩|exact y1g _
 ·intro A wa hk;obtain⟨f,rfl,hxa,hdn,hrs⟩:=hk.fin (n:=133) rfl;obtain⟨ea,rfl⟩:=y1h hxa;have k6:=hrs 6 (by kernel_rfl);obtain⟨a,y,c,hr1,hr2,k119,hre,hn0,hn1⟩:=hdn 14 119 rfl rfl;clear hdn hrs;simp at k6;simp only[List.drop_succ_cons,List.drop_zero];simp[List.range,List.range.loop,k6,k119];clear k6 k119;obtain⟨vy,rfl,hsy⟩:=RE9_iff.1 hre;obtain⟨ya,yc,rfl⟩:=hsy.form;obtain⟨y1,y2⟩:=y;have hb3:=HB2.o.ext (y1i ea);have hx0:=X2.o.trans (y1i ea);have HQ:=Hd (show(do let a←rk;qq a)=.ok (y1,y2) from(by rw[hr1];exact hr2));obtain⟨g0,g1,g2,g3,g4,g5,g6,g7,g8⟩:=hb3.get9;obtain⟨f0,f1,f2,f3,f4,f5,f6,f7,f8⟩:=hb3.free9;obtain⟨W9,hW9⟩:∃W9,W9=((((((((ea.w.setCell ⟨W1.heap.size,0,none⟩ (.int .i64 y1.op)).setCell ⟨W1.heap.size,1,none⟩ (.int .i64 y1.w)).setCell ⟨W1.heap.size,2,none⟩ (.int .u64 y1.v)).setCell ⟨W1.heap.size,3,none⟩ (.int .i64 y1.sig)).setCell ⟨W1.heap.size,4,none⟩ (.int .i64 y1.hi)).setCell ⟨W1.heap.size,5,none⟩ (.int .i64 y1.lo)).setCell ⟨W1.heap.size,6,none⟩ (.int .i64 y1.n)).setCell ⟨W1.heap.size,7,none⟩ (.slice ya y1.l.length yc)).setCell ⟨W1.heap.size,8,none⟩ (.int .i64 y2):=⟨_,rfl⟩;have hV9:=hW9.symm;have HB9:=Hd (show Blk W9 W1.heap.size 203 [.int .i64 y1.op,.int .i64 y1.w,.int .u64 y1.v,.int .i64 y1.sig,.int .i64 y1.hi,.int .i64 y1.lo,.int .i64 y1.n,.slice ya y1.l.length yc,.int .i64 y2] by rw[hW9];exact hb3.store9 _ _ _ _ _ _ _ _ _);have HX9:=Hd (show Ext w W9 by rw[hW9];exact((((((((hx0.setCell hgw _).setCell hgw _).setCell hgw _).setCell hgw _).setCell hgw _).setCell hgw _).setCell hgw _).setCell hgw _).setCell hgw _);have HY9:=Hd (show RE9 (fun b=>w.heap.size≤b) W9 y1 [.int .i64 y1.op,.int .i64 y1.w,.int .u64 y1.v,.int .i64 y1.sig,.int .i64 y1.hi,.int .i64 y1.lo,.int .i64 y1.n,.slice ya y1.l.length yc] by
   rw[hW9];refine RE9.turn (X:=fun b=>b=W1.heap.size) ?_ (fun b hb hy=>⟨fun e=>?_,y1k X2.o.size hy⟩) y1 _ hre
   ·exact((((((((y1y (X:=fun b=>b=W1.heap.size) (y1u _ ea.w) (p:=⟨W1.heap.size,0,none⟩) rfl _).setCell (p:=⟨W1.heap.size,1,none⟩) rfl _).setCell (p:=⟨W1.heap.size,2,none⟩) rfl _).setCell (p:=⟨W1.heap.size,3,none⟩) rfl _).setCell (p:=⟨W1.heap.size,4,none⟩) rfl _).setCell (p:=⟨W1.heap.size,5,none⟩) rfl _).setCell (p:=⟨W1.heap.size,6,none⟩) rfl _).setCell (p:=⟨W1.heap.size,7,none⟩) rfl _).setCell (p:=⟨W1.heap.size,8,none⟩) rfl _
   ·exact absurd (hb.one (e▸hb3.tag)) (by decide))
  have HN2:=Hd (y1x hn0 hn1);clear hb3 hx0 hW9 hre hsy hr1 hr2 hn0 hn1;go_wp2_with fail
  refine z5x rfl HB9.o (fun hn=>?_) (fun hn=>?_)
  ·exact .ok (by rw[HD.o,HQ.o];exact q3d hn) ⟨_,rfl,HY9.o,HX9.o,HN2.o.1,HN2.o.2⟩
  ·exact .no (by rw[HD.o,HQ.o];exact q0g hn) HX9.o
theorem k8y(n:Int):(z6p (z8t (z8t (z8t (z8t [] (.int .i64 5) (.int .i64 4)) (.int .i64 6) (.int .i64 5)) (.int .i64 7) (.int .i64 6)) (.int .i64 8) (.int .i64 7)) (.int .i64 n)).getD (.int .i64 0)=.int .i64 (opD n):=by
 simp only[z7i,Value.int.injEq,true_and];unfold opD;by_cases h8:n=8
 ·subst h8;simp[z6p]
 rw[if_neg (fun e:(8:Int)=n=>h8 e.symm)];by_cases h7:n=7
 ·subst h7;simp[z6p]
 rw[if_neg (fun e:(7:Int)=n=>h7 e.symm)];by_cases h6:n=6
 ·subst h6;simp[z6p]
 rw[if_neg (fun e:(6:Int)=n=>h6 e.symm)];by_cases h5:n=5
 ·subst h5;simp[z6p]
 rw[if_neg (fun e:(5:Int)=n=>h5 e.symm)];simp[z6p,h5,h6,h7,h8]
theorem k0n(W0:World)(B N0 mb sb mp:Nat)(vf vs vp vc ve:Value)(m:Mk)(s:Sc)(x:X)(cs:List Value)(w:World)(hc:Cx W0 B w)(hX:XOk W0 B x cs)(h:MkI w N0 mb vf vs vp vc m)(hs:ScI w sb mp ve s)(h1:x.op≠1)(h2:x.op≠2)(h3:x.op≠3)(h4:x.op≠4)(h9:x.op≠9)(h10:x.op≠10)(hln:x.l.length≤1000000000)
 (hf:∀y,y∈x.l→∀(w':World) (cs:List Value),Ext w w'→RX W0 B y cs→z9b Tryz.prog 150 #[.pointer (some ⟨mb,0,none⟩),.pointer (some ⟨sb,0,none⟩),.agg cs.toArray] w' (z1f m.d.sigs s y) (z5n w') (Ext w')):
 z9b Tryz.prog 150 #[.pointer (some ⟨mb,0,none⟩),.pointer (some ⟨sb,0,none⟩),.agg cs.toArray] w (z1f m.d.sigs s x) (z5n w) (Ext w):=by
 have HC:=Hd hc;have HS:=Hd hs;have HF:=Hd hf;obtain⟨x5,rfl,h5⟩:=RX_iff.1 hX.rx;have H5:=Hd h5;have o5:=h5.oneCell;obtain⟨E,hE⟩:∃E,E=z1f m.d.sigs s:=⟨_,rfl⟩;obtain⟨qq,hqq⟩:∃qq:Rs (DE×Int),qq=(do let z←z4g (x.l.map E) 1;return(DE.mk (opD x.op) 0 0 0 0 0 x.n z.1,z.2)):=⟨_,rfl⟩;have HD:=Hd (show z1f m.d.sigs s x=(do let y←qq;z5i y) by
  rw[z3j,hqq,hE];unfold q0s;rw[if_neg h1,if_neg h2,if_neg h3,if_neg h4,if_neg h9,if_neg h10];simp only[bind,Except.bind,pure,Except.pure];cases z4g (x.l.map (z1f m.d.sigs s)) 1<;>rfl)
 obtain⟨W1,hW1,hx1,hb1⟩:=z6v w (.int .i64 x.op) (.string x.name) (.int .i64 x.n) (.int .i64 x.w) (.int .u64 x.v) x5 40;obtain⟨W2,hW2,hx2,hb2⟩:=q0y W1 (.int .i64 0) (.int .i64 0) (.int .u64 0) (.int .i64 0) (.int .i64 0) (.int .i64 0) (.int .i64 0) (.slice none 0 0) (.int .i64 0) 203;have hV1:=hW1.symm;have hgw:w.heap.size≤W1.heap.size:=hx1.size;obtain⟨c0,c1,c2,c3,c4,c5⟩:=(hb1.ext hx2).later6;obtain⟨e2,he2⟩:=y1h (W:=W2) (w:=W2) (y1g _);have hV2:=hW2.symm.trans he2;have X2:=Hd (hx1.trans hx2);have HB2:=Hd hb2;have KP:=Hd (fun(w':World) (hw:Ext w w')=>q3w W0 B (.pointer (some ⟨mb,0,none⟩)) (.pointer (some ⟨sb,0,none⟩)) (z1f m.d.sigs s) (opD x.op) 0 0 0 0 0 x.n x.l x5 w' H5.o HC.o.hB (HC.o.ext.trans hw) hln (fun y hy w'' cs h1 h2=>HF.o y hy w'' cs (hw.trans h1) h2));rw[←hE] at KP;have KP2:=Hd hqq;clear he2 hW1 hW2 hx1 hx2 hb1 hb2 h5 hX h hs hc hln hf hE hqq;have hmf:=@hmf_ Tryz.prog;have t1:(x.op==1)=false:=beq_eq_false_iff_ne.2 h1;have t2:(x.op==2)=false:=beq_eq_false_iff_ne.2 h2;have t3:(x.op==3)=false:=beq_eq_false_iff_ne.2 h3;have t4:(x.op==4)=false:=beq_eq_false_iff_ne.2 h4;have t9:(x.op==9)=false:=beq_eq_false_iff_ne.2 h9;have t10:(x.op==10)=false:=beq_eq_false_iff_ne.2 h10;have ut:Tryz.prog.underlying 240=some (.map 3 3):=underlying240;have uk:Tryz.prog.underlying 3=some (.int .i64):=underlying3;have hz:∀w:World,(zeroValue 3).run Tryz.prog w=.ok (.int .i64 0) w:=fun _=>by kernel_rfl
 obtain⟨V0,hU0⟩:∃V,V=e2.w.alloc (.map #[] 0):=⟨_,rfl⟩;have m0:MV V0 e2.w.heap.size []:=by rw[hU0];exact MV.new _
 have k0:∀p,p∈([]:List (Value×Value))→MapKept.IsKey (.int .i64) p.1:=fun p hp=>by cases hp
 have x0:Below e2.w.heap.size e2.w V0:=by rw[hU0];exact y1v _ _
 obtain⟨o1,p1,m1⟩:=m0.update ut uk (z2s 5) k0 (.int .i64 4);have k1:=z1l (v:=.int .i64 4) k0 (z2s 5);obtain⟨V1,hU1⟩:∃V,V=z4f V0 e2.w.heap.size o1:=⟨_,rfl⟩;rw[←hU1] at p1 m1;have x1:Below e2.w.heap.size e2.w V1:=by rw[hU1];exact x0.trans (z0u (y1j _) x0.size)
 obtain⟨o2,p2,m2⟩:=m1.update ut uk (z2s 6) k1 (.int .i64 5);have k2:=z1l (v:=.int .i64 5) k1 (z2s 6);obtain⟨V2,hU2⟩:∃V,V=z4f V1 e2.w.heap.size o2:=⟨_,rfl⟩;rw[←hU2] at p2 m2;have x2:Below e2.w.heap.size e2.w V2:=by rw[hU2];exact x1.trans (z0u (y1j _) x1.size)
 obtain⟨o3,p3,m3⟩:=m2.update ut uk (z2s 7) k2 (.int .i64 6);have k3:=z1l (v:=.int .i64 6) k2 (z2s 7);obtain⟨V3,hU3⟩:∃V,V=z4f V2 e2.w.heap.size o3:=⟨_,rfl⟩;rw[←hU3] at p3 m3;have x3:Below e2.w.heap.size e2.w V3:=by rw[hU3];exact x2.trans (z0u (y1j _) x2.size)
 obtain⟨o4,p4,m4⟩:=m3.update ut uk (z2s 8) k3 (.int .i64 7);have k4:=z1l (v:=.int .i64 7) k3 (z2s 8);obtain⟨V4,hU4⟩:∃V,V=z4f V3 e2.w.heap.size o4:=⟨_,rfl⟩;rw[←hU4] at p4 m4;have x4:Below e2.w.heap.size e2.w V4:=by rw[hU4];exact x3.trans (z0u (y1j _) x3.size)
 have hlk:=m4.lookup ut uk (z2s x.op) k4 (hz _) false;rw[k8y] at hlk;simp only[Bool.false_eq_true,if_false] at hlk;obtain⟨e4,he4⟩:=y1h (W:=W2) ((y1i e2).trans x4);have g0:=c0 e4;have g2:=c2 e4;have g5:=c5 e4;rw[←he4] at g0 g2 g5;have HX4:=Hd (show Ext W2 V4 from(y1i e2).trans x4);have hV0:=hU0.symm;clear hz ut uk m0 k0 x0 m1 k1 x1 m2 k2 x2 m3 k3 x3 m4 k4 x4 he4 e4 hU0 hU1 hU2 hU3 hU4 h1 h2 h3 h4 h9 h10;have hmm:=@run_makeMap Tryz.prog
 go_enter_defers func150,ntmps150
 go_wp2_with fail
 go_at_call 189;refine(KP.o V4 (X2.o.trans HX4.o)).mono ?_;rintro e w3 (⟨y,u,hr,rfl,c,rfl,hre,hxe,hn0,hn1⟩|⟨c,hr,rfl,hxe⟩);rotate_left
 ·have h8:=(HB2.o.ext (HX4.o.trans hxe)).cell 8;have HN:=Hd (show RunsP (z1f m.d.sigs s x) (z5n w) (Ext w) (.panicked (z2c c)) w3 from .no (by rw[HD.o,KP2.o,hr];rfl) ((X2.o.trans HX4.o).trans hxe));exact z3c (by simpa using h8) (by decide) HN.o
 have hr2:=KP2.o.trans hr;have hre:=(hre.imp (fun b _ hb=>y1k HX4.o.size hb):RE9 (fun b=>W2.heap.size≤b) w3 y.1 c);obtain⟨ea,rfl⟩:=y1h (HX4.o.trans hxe);clear hr hxe;obtain⟨vy,rfl,hsy⟩:=RE9_iff.1 hre;obtain⟨ya,yc,rfl⟩:=hsy.form;obtain⟨y1,y2⟩:=y;have hb3:=HB2.o.ext (y1i ea);have hx0:=X2.o.trans (y1i ea);have HQ:=Hd (show qq=.ok (y1,y2) from hr2);obtain⟨g0,g1,g2,g3,g4,g5,g6,g7,g8⟩:=hb3.get9;obtain⟨f0,f1,f2,f3,f4,f5,f6,f7,f8⟩:=hb3.free9;obtain⟨W9,hW9⟩:∃W9,W9=((((((((ea.w.setCell ⟨W1.heap.size,0,none⟩ (.int .i64 y1.op)).setCell ⟨W1.heap.size,1,none⟩ (.int .i64 y1.w)).setCell ⟨W1.heap.size,2,none⟩ (.int .u64 y1.v)).setCell ⟨W1.heap.size,3,none⟩ (.int .i64 y1.sig)).setCell ⟨W1.heap.size,4,none⟩ (.int .i64 y1.hi)).setCell ⟨W1.heap.size,5,none⟩ (.int .i64 y1.lo)).setCell ⟨W1.heap.size,6,none⟩ (.int .i64 y1.n)).setCell ⟨W1.heap.size,7,none⟩ (.slice ya y1.l.length yc)).setCell ⟨W1.heap.size,8,none⟩ (.int .i64 y2):=⟨_,rfl⟩;have hV9:=hW9.symm;have HB9:=Hd (show Blk W9 W1.heap.size 203 [.int .i64 y1.op,.int .i64 y1.w,.int .u64 y1.v,.int .i64 y1.sig,.int .i64 y1.hi,.int .i64 y1.lo,.int .i64 y1.n,.slice ya y1.l.length yc,.int .i64 y2] by rw[hW9];exact hb3.store9 _ _ _ _ _ _ _ _ _);have HX9:=Hd (show Ext w W9 by rw[hW9];exact((((((((hx0.setCell hgw _).setCell hgw _).setCell hgw _).setCell hgw _).setCell hgw _).setCell hgw _).setCell hgw _).setCell hgw _).setCell hgw _);have HY9:=Hd (show RE9 (fun b=>w.heap.size≤b) W9 y1 [.int .i64 y1.op,.int .i64 y1.w,.int .u64 y1.v,.int .i64 y1.sig,.int .i64 y1.hi,.int .i64 y1.lo,.int .i64 y1.n,.slice ya y1.l.length yc] by
  rw[hW9];refine RE9.turn (X:=fun b=>b=W1.heap.size) ?_ (fun b hb hy=>⟨fun e=>?_,y1k X2.o.size hy⟩) y1 _ hre
  ·exact((((((((y1y (X:=fun b=>b=W1.heap.size) (y1u _ ea.w) (p:=⟨W1.heap.size,0,none⟩) rfl _).setCell (p:=⟨W1.heap.size,1,none⟩) rfl _).setCell (p:=⟨W1.heap.size,2,none⟩) rfl _).setCell (p:=⟨W1.heap.size,3,none⟩) rfl _).setCell (p:=⟨W1.heap.size,4,none⟩) rfl _).setCell (p:=⟨W1.heap.size,5,none⟩) rfl _).setCell (p:=⟨W1.heap.size,6,none⟩) rfl _).setCell (p:=⟨W1.heap.size,7,none⟩) rfl _).setCell (p:=⟨W1.heap.size,8,none⟩) rfl _
  ·exact absurd (hb.one (e▸hb3.tag)) (by decide))
 have HN2:=Hd (y1x hn0 hn1);clear hb3 hx0 hW9 hre hsy hr2 hn0 hn1;go_wp2_with fail
 refine z5x rfl HB9.o (fun hn=>?_) (fun hn=>?_)
 ·exact .ok (by rw[HD.o,HQ.o];exact q3d hn) ⟨_,rfl,HY9.o,HX9.o,HN2.o.1,HN2.o.2⟩
 ·exact .no (by rw[HD.o,HQ.o];exact q0g hn) HX9.o
end Go.Proofs.YtlfmlodanoolhaaGreatDoor
namespace Go.Proofs.YtlfmlodanoolhaaGreatDoor
open Go Go.RowKit Go.Proofs.Tryz
def RT9(Y:Nat→Prop)(w:World):DT→List Value→Prop
 |.mk op sig hi lo e l,cs=>∃ve,SlY Y 60 (RE9 Y w) w 8 e ve∧∃a cap,cs=[.int .i64 op,.int .i64 sig,.int .i64 hi,.int .i64 lo,ve,.slice a l.length cap]∧l.length≤cap∧
   ∀k,(h:k<l.length)→∃b o c,a=some ⟨b,o,none⟩∧Y b∧Tag w b 73∧c.length=6∧Cells w b (o+k*6) c∧(∀v,v∈c→v.oneCell'=true)∧RT9 Y w l[k] c
termination_by x=>SizeOf.sizeOf x
decreasing_by
 have:=List.sizeOf_lt_of_mem (y1l h);simp only[DT.mk.sizeOf_spec];omega
theorem RT9_iff{Y:Nat→Prop}{w:World}{x:DT}{cs:List Value}:
 RT9 Y w x cs↔∃v4 v5,cs=[.int .i64 x.op,.int .i64 x.sig,.int .i64 x.hi,.int .i64 x.lo,v4,v5]∧SlY Y 60 (RE9 Y w) w 8 x.e v4∧SlY Y 73 (RT9 Y w) w 6 x.l v5:=by
 obtain⟨op,sig,hi,lo,e,l⟩:=x;rw[RT9];constructor
 ·rintro⟨ve,h0,a,cap,h1,h2,h3⟩;exact⟨_,_,h1,h0,a,cap,rfl,h2,h3⟩
 ·rintro⟨_,_,h1,h0,a,cap,rfl,h2,h3⟩;exact⟨_,h0,a,cap,h1,h2,h3⟩
theorem RT9.rt6{Y:Nat→Prop}{w:World}(x:DT):∀cs,RT9 Y w x cs→RT6 w x cs:=by
 induction x using DT.ind with
 |h x ih=>
  intro cs h;obtain⟨v4,v5,rfl,h4,h5⟩:=RT9_iff.1 h;exact RT6_iff.2 ⟨v4,v5,rfl,h4.slT (fun y _=>RE9.re8 y),h5.slT ih⟩
theorem RT9.turn{X Y Y':Nat→Prop}{w w':World}(hg:Chg X w w')(hX:∀b,Tag w b 60∨Tag w b 73→Y b→¬X b∧Y' b)(x:DT):∀cs,RT9 Y w x cs→RT9 Y' w' x cs:=by
 induction x using DT.ind with
 |h x ih=>
  intro cs h;obtain⟨v4,v5,rfl,h4,h5⟩:=RT9_iff.1 h;exact RT9_iff.2 ⟨v4,v5,rfl,h4.turn hg (fun b hb=>hX b (.inl hb)) (fun y _=>RE9.turn hg (fun b hb=>hX b (.inl hb)) y),h5.turn hg (fun b hb=>hX b (.inr hb)) ih⟩
theorem RT9.ext{Y:Nat→Prop}{w w':World}(hx:Ext w w'){x:DT}{cs:List Value}(h:RT9 Y w x cs):RT9 Y w' x cs:=
 RT9.turn (hx.chg (X:=fun _=>False)) (fun b _ hy=>⟨id,hy⟩) x cs h
theorem RT9.imp{Y Y':Nat→Prop}{w:World}(hY:∀b,b<w.heap.size→Y b→Y' b){x:DT}{cs:List Value}(h:RT9 Y w x cs):RT9 Y' w x cs:=
 RT9.turn (y1u (fun _=>False) w) (fun b hb hy=>⟨id,hY b (hb.elim Tag.lt Tag.lt) hy⟩) x cs h
theorem RT9.one{Y:Nat→Prop}{w:World}{x:DT}{cs:List Value}(h:RT9 Y w x cs):∀u,u∈cs→u.oneCell'=true:=(RT9.rt6 x cs h).one
theorem RT9.len{Y:Nat→Prop}{w:World}{x:DT}{cs:List Value}(h:RT9 Y w x cs):cs.length=6:=(RT9.rt6 x cs h).len
abbrev SlE9(Y:Nat→Prop)(w:World)(l:List DE)(v:Value):Prop:=SlY Y 60 (RE9 Y w) w 8 l v
abbrev SlT9(Y:Nat→Prop)(w:World)(l:List DT)(v:Value):Prop:=SlY Y 73 (RT9 Y w) w 6 l v
theorem SlE9.turn{X Y Y':Nat→Prop}{w w':World}{l:List DE}{v:Value}(h:SlE9 Y w l v)(hg:Chg X w w')(hX:∀b,Tag w b 60→Y b→¬X b∧Y' b):SlE9 Y' w' l v:=
 SlY.turn h hg hX (fun y _=>RE9.turn hg hX y)
theorem SlT9.turn{X Y Y':Nat→Prop}{w w':World}{l:List DT}{v:Value}(h:SlT9 Y w l v)(hg:Chg X w w')(hX:∀b,Tag w b 60∨Tag w b 73→Y b→¬X b∧Y' b):SlT9 Y' w' l v:=
 SlY.turn h hg (fun b hb=>hX b (.inr hb)) (fun y _=>RT9.turn hg hX y)
theorem SlE9.ext{Y:Nat→Prop}{w w':World}{l:List DE}{v:Value}(h:SlE9 Y w l v)(hx:Ext w w'):SlE9 Y w' l v:=SlE9.turn h (hx.chg (X:=fun _=>False)) (fun b _ hy=>⟨id,hy⟩)
structure OwnT(N:Nat)(l:List DT)(v:Value)(w:World):Prop where
 ex:∃xs,w.ownsRow N 73 6 v l.length xs∧Fl (RT9 (fun b=>N≤b∧v.ownBlock≠some b) w) 6 l xs
theorem OwnT.none_{N:Nat}{w:World}:OwnT N [] (.slice none 0 0) w:=⟨[],World.ownsRow_nil _ _ _ _,Fl.nil⟩
theorem OwnT.ownL{N:Nat}{l:List DT}{v:Value}{w:World}(h:OwnT N l v w):OwnL (RT9 (fun b=>N≤b∧v.ownBlock≠some b) w) N 73 6 l v w:=⟨h.ex⟩
theorem OwnT.form{N:Nat}{l:List DT}{v:Value}{w:World}(h:OwnT N l v w):∃a cap,v=.slice a l.length cap:=h.ownL.form
theorem OwnT.lt{N:Nat}{l:List DT}{v:Value}{w:World}(h:OwnT N l v w):∀g,v.ownBlock=some g→N≤g∧g<w.heap.size:=h.ownL.lt
theorem OwnT.chg{N:Nat}{X:Nat→Prop}{l:List DT}{v:Value}{w w':World}(h:OwnT N l v w)(hg:Chg X w w')(hX:∀b,X b→b<N):OwnT N l v w':=by
 obtain⟨xs,h1,h2⟩:=h.ex;refine⟨xs,?_,h2.imp fun x cs=>RT9.turn hg (fun b _ hb=>⟨fun hx=>absurd (hX b hx) (by omega),hb⟩) x cs⟩;refine⟨h1.1,?_⟩;rcases h1.2 with hc|⟨g,cap,cur,e1,e2,e3,e4⟩
 ·exact .inl hc
 ·have hgl:g<w.heap.size:=(y1n.1 e3).1;exact .inr ⟨g,cap,cur,e1,e2,(hg.block g hgl (fun hx=>absurd (hX g hx) (by omega))).trans e3,e4⟩
theorem OwnT.later{N:Nat}{l:List DT}{v:Value}{w w':World}(h:OwnT N l v w)(hx:Ext w w'):OwnT N l v w':=h.chg (hx.chg (X:=fun _=>False)) (fun _ h=>h.elim)
theorem OwnT.slY{N:Nat}{l:List DT}{v:Value}{w:World}(h:OwnT N l v w):SlT9 (fun b=>N≤b) w l v:=by
 have hl:=h.lt;obtain⟨a,cap,hv,hc,hr⟩:=h.ownL.slT (by decide);refine⟨a,cap,hv,hc,fun k hlt=>?_⟩;obtain⟨b,o,cs,ha,ht,hcl,hC,h1,hR1⟩:=hr k hlt;refine⟨b,o,cs,ha,(hl b ?_).1,ht,hcl,hC,h1,hR1.imp fun b _ hb=>hb.1⟩;rw[hv,ha];rfl
theorem q3k{P:Program}{w:World}{ops:Array Oper}{rest:List Oper}{o:Oper}{a:Act}{Q:Exit→Act→World→Prop}(hgd:o.guard=none)(s x:Operand)(t:TypeId)
 (ho:o.op=.call {callee:=.builtin .append,args:=#[s,x],argTypes:=#[t,t]})
 (N:Nat) (z:Value) (bytes:Nat) (hi:(P.info? 73).map (fun i=>(i.zero,i.size,i.bytes))=some (some z,6,bytes)) (ht:P.underlying t=some (.slice 73))
 (hzs:z.cells.size=6) (hb:bytes≤1000)
 (l:List DT) (y:DT) (v:Value) (hs:a.eval s=v) (hown:OwnT N l v w)
 (B:Nat) (c:Nat) (ys:List Value) (hx:a.eval x=.slice (some ⟨B,0,none⟩) 1 c) (hr:Blk w B 73 ys) (hy:RT9 (fun b=>N≤b∧v.ownBlock≠some b) w y ys)
 (hn:l.length≤1000000000) (hbase:N≤w.heap.size)
 (h:∀v' w',OwnT N (l++[y]) v' w'→w.grownBy w' v.ownBlock→(∀g,v.ownBlock=some g→N≤g)→wpList P ops Q rest (a.put o.dst v') w'):wpList P ops Q (o::rest) a w:=by
 obtain⟨xs,h1,h2⟩:=hown.ex;obtain⟨ti,hti,htz,hts,htb⟩:=info_parts hi;have hfl:Flat w 6 (some ⟨B,0,none⟩) 1 ys:=⟨by rw[hy.len],fun u hu=>hy.one u hu,fun _=>⟨B,0,rfl,fun j u hu=>by
  have:=hr.cells j u hu;simpa using this⟩⟩
 have hlt:=hown.lt;refine z1b hgd s x t ho N _ ti z 6 bytes ht hti htz hts htb hzs (by decide) hb v l.length xs hs h1 (some ⟨B,0,none⟩) 1 c ys hx hfl hn (by decide) hbase ?_;intro v' w' hown' hg hf;have hc:Chg (fun b=>v.ownBlock=some b) w w':=⟨hg.os,hg.tape,hg.output,hg.size,fun k hk hx=>hg.block k hk fun e=>hx e.symm⟩;have hT:∀x cs,RT9 (fun b=>N≤b∧v.ownBlock≠some b) w x cs→RT9 (fun b=>N≤b∧v'.ownBlock≠some b) w' x cs:=fun x cs=>
  RT9.turn hc (fun b hb hy=>⟨hy.2,hy.1,fun e=>by
   rcases hf b e with h|h
   ·exact hy.2 h
   ·have:=hb.elim Tag.lt Tag.lt;omega⟩) x cs
 exact h v' w' ⟨xs++ys,by rw[List.length_append];exact hown',(h2.imp hT).append (Fl.one_ hy.len hy.one (hT _ _ hy))⟩ hg fun g hg=>(hlt g hg).1
theorem SlY.flat{α:Type}{Y:Nat→Prop}{T:TypeId}{R:α→List Value→Prop}{w:World}{sz:Nat}{l:List α}{v:Value}(h:SlY Y T R w sz l v):∃a cap xs,v=.slice a l.length cap∧Flat w sz a l.length xs∧Fl R sz l xs:=by
 obtain⟨a,cap,hv,hc,hr⟩:=h;have key:∀n,n≤l.length→∃xs:List Value,xs.length=n*sz∧(∀u,u∈xs→u.oneCell'=true)∧(0<n→∃b o,a=some ⟨b,o,none⟩∧Cells w b o xs)∧Fl R sz (l.take n) xs:=by
  intro n;induction n with
  |zero=>intro _;exact⟨[],by simp,by simp,fun h=>absurd h (by omega),by simpa using Fl.nil⟩
  |succ n ih=>
   intro hn;obtain⟨xs,h1,h2,h3,h4⟩:=ih (by omega);obtain⟨b,o,cs,ha,-,-,hl,hC,ho,hR⟩:=hr n (by omega);refine⟨xs++cs,by rw[List.length_append,h1,hl,Nat.add_mul];omega,fun u hu=>(y2e.1 hu).elim (h2 u) (ho u),fun _=>⟨b,o,ha,fun j u hu=>?_⟩,?_⟩
   ·by_cases hj:j<xs.length
    ·rw[List.getElem?_append_left hj] at hu;obtain⟨b',o',ha',hC'⟩:=h3 (by
      rcases Nat.eq_zero_or_pos n with h|h
      ·subst h;simp at h1;subst h1;simp at hj
      ·exact h)
     rw[ha] at ha';injection ha' with e;injection e with e1 e2;subst e1;subst e2;exact hC' j u hu
    ·rw[List.getElem?_append_right (by omega),h1] at hu;have:=hC (j - n*sz) u hu;rwa[show o+n*sz+(j - n*sz)=o+j by omega] at this
   ·rw[List.take_succ_eq_append_getElem (by omega)];exact h4.append (Fl.one_ hl ho hR)
 obtain⟨xs,h1,h2,h3,h4⟩:=key l.length (y1j _);rw[List.take_length] at h4;exact⟨a,cap,xs,hv,⟨h1,h2,h3⟩,h4⟩
theorem q2v{P:Program}{w:World}{ops:Array Oper}{rest:List Oper}{o:Oper}{a:Act}{Q:Exit→Act→World→Prop}(hgd:o.guard=none)(s x:Operand)(t:TypeId)
 (ho:o.op=.call {callee:=.builtin .append,args:=#[s,x],argTypes:=#[t,t]})
 (N:Nat) (z:Value) (bytes:Nat) (hi:(P.info? 73).map (fun i=>(i.zero,i.size,i.bytes))=some (some z,6,bytes)) (ht:P.underlying t=some (.slice 73))
 (hzs:z.cells.size=6) (hb:bytes≤1000)
 (l r:List DT) (v u:Value) (hs:a.eval s=v) (hown:OwnT N l v w) (hx:a.eval x=u) (hr:SlT9 (fun b=>N≤b∧v.ownBlock≠some b) w r u)
 (hn:l.length≤1000000000) (hm:r.length≤1000000000) (hbase:N≤w.heap.size)
 (h:∀v' w',OwnT N (l++r) v' w'→w.grownBy w' v.ownBlock→(∀g,v.ownBlock=some g→N≤g)→wpList P ops Q rest (a.put o.dst v') w'):wpList P ops Q (o::rest) a w:=by
 obtain⟨xs,h1,h2⟩:=hown.ex;obtain⟨ti,hti,htz,hts,htb⟩:=info_parts hi;obtain⟨ua,uc,ys,rfl,hfl,hfr⟩:=SlY.flat hr;have hlt:=hown.lt;refine z1b hgd s x t ho N _ ti z 6 bytes ht hti htz hts htb hzs (by decide) hb v l.length xs hs h1 ua r.length uc ys hx hfl hn hm hbase ?_;intro v' w' hown' hg hf;have hc:Chg (fun b=>v.ownBlock=some b) w w':=⟨hg.os,hg.tape,hg.output,hg.size,fun k hk hx=>hg.block k hk fun e=>hx e.symm⟩;have hT:∀x cs,RT9 (fun b=>N≤b∧v.ownBlock≠some b) w x cs→RT9 (fun b=>N≤b∧v'.ownBlock≠some b) w' x cs:=fun x cs=>
  RT9.turn hc (fun b hb hy=>⟨hy.2,hy.1,fun e=>by
   rcases hf b e with h|h
   ·exact hy.2 h
   ·have:=hb.elim Tag.lt Tag.lt;omega⟩) x cs
 exact h v' w' ⟨xs++ys,by rw[List.length_append];exact hown',(h2.imp hT).append (hfr.imp hT)⟩ hg fun g hg=>(hlt g hg).1
end Go.Proofs.YtlfmlodanoolhaaGreatDoor
namespace Go.Proofs.YtlfmlodanoolhaaGreatDoor
open Go Go.RowKit Go.ChangeShapes Go.WideShapes Go.Proofs.Tryz
theorem k9p:Tryz.prog.cellsOf 57=4:=by kernel_rfl
theorem k9t:Tryz.prog.cellsOf 50=3:=by kernel_rfl
theorem k9q:Tryz.prog.cellsOf 46=1:=by kernel_rfl
theorem k9r:Tryz.prog.cellsOf 47=1:=by kernel_rfl
theorem k9s:Tryz.prog.cellsOf 48=1:=by kernel_rfl
theorem oneG(p:Sg)(cs:List Value)(h:RSg p cs):∀v,v∈cs→v.oneCell'=true:=by
 unfold RSg at h;subst h;intro u hu;simp only[List.mem_cons,List.not_mem_nil,or_false] at hu;rcases hu with rfl|rfl|rfl|rfl<;>rfl
section
variable {H : Type} {enc : TypeId × Value → H} {w : World} {spare : Nat → Bool} {held : Bool}
theorem y0r(fuel:Nat)(cs:List Value)(d:DataW H)(ps:List MemPlace)(h:DataW.trod enc Tryz.prog w 0 spare held fuel 57 cs=some (d,ps)):
 ∃p:Sg,RSg p cs∧True∧(fun _=>1) p≤Rows.uptoBulk d:=by
 obtain⟨xs,n,-,hx,hl,hlen,hf⟩:=DataW.trod_struct underlying57 h;obtain⟨c0,c1,c2,c3,rfl⟩:=k9g (hl.trans k9p);obtain⟨y0,y1,y2,y3,rfl⟩:=k9g hlen;have g0:=hf 0 _ rfl;have g1:=hf 1 _ rfl;have g2:=hf 2 _ rfl;have g3:=hf 3 _ rfl;clear hf;simp[k8d,y0z,y0y] at g0 g1 g2 g3;obtain⟨nm,rfl,b0⟩:=k2r g0;obtain⟨z1,rfl,b1⟩:=j3b g1;obtain⟨z2,rfl,b2⟩:=j3b g2;obtain⟨z3,rfl,b3⟩:=k2q g3;exact⟨⟨nm,z1,z2,z3⟩,rfl,trivial,q3f d⟩
theorem j5h{α:Type}(l:List α):z0e (fun _=>1) l=l.length:=by induction l with|nil=>rfl|cons a r ih=>simp[z0e,ih];omega
theorem j3c{t e:TypeId}(ht:Tryz.prog.underlying t=some (.slice e)){fuel:Nat}{cs:List Value}{y:DataW H×List MemPlace}(h:DataW.trod enc Tryz.prog w 0 spare held fuel t cs=some y):∃v,cs=[v]∧v.oneCell'=true:=by
 obtain⟨d,p⟩:=y;rcases Go.Deep.open_slice ht h with⟨rfl,-⟩|⟨a,len,cap,m,fu,D,Pl,rfl,-⟩
 ·exact⟨_,rfl,rfl⟩
 ·exact⟨_,rfl,rfl⟩
end
theorem j8t{H:Type}{enc:TypeId×Value→H}{W:World}{base:Nat}{ts:Array TypeId}{args:Array Value}{v:Value}{d:DataW H}{p:List MemPlace}{sp:Nat→Bool}{held:Bool}
 (hval:∀(j:Nat) t v,ts[j]? =some t→args[j]? =some v→Value.okWide Tryz.prog W .any base t v) (j:Nat) (hp:ts[j]? =some 50) (ha:args[j]? =some v)
 (h:DataW.Trod enc Tryz.prog W 0 sp held 50 v d p) (hb:Rows.uptoBulk d≤1048576):
 ∃(l:List Sg) (vs vp vc:Value),v=.agg #[vs,vp,vc]∧Sl RSg W W.heap.size 4 l vs∧vp.oneCell'=true∧vc.oneCell'=true∧l.length≤1048576:=by
 obtain⟨cs,fuel,rfl,hf⟩:=k3e hval j hp ha underlying50 h;obtain⟨xs,n,-,hx,hl,hlen,hfl⟩:=DataW.trod_struct underlying50 hf;obtain⟨c0,c1,c2,hcs⟩:=k9h (hl.trans k9t);obtain⟨y0,y1,y2,rfl⟩:=k9h hlen;have g0:=hfl 0 _ rfl;have g1:=hfl 1 _ rfl;have g2:=hfl 2 _ rfl;clear hfl;rw[hcs] at g0 g1 g2;simp[k9q,k9r,k9s] at g0 g1 g2;obtain⟨l,vs,hc0,hs,-,hz⟩:=j8k (V:=fun _=>True) (d:=y0.1) (ps:=y0.2) underlying46 k9p (by omega) oneG g0 (fun fuel' cs' d' ps' _ htr=>y0r fuel' cs' d' ps' htr);obtain⟨vp,hc1,op⟩:=j3c underlying47 g1;obtain⟨vc,hc2,oc⟩:=j3c underlying48 g2;rw[j5h] at hz;have hdd:Rows.uptoBulk y0.1≤Rows.uptoBulk d:=by
  have hd:=(Prod.mk.inj hx).1;rw[hd];simp only[Rows.uptoBulk,List.map_cons,List.map_nil,Rows.uptoBulkAll];omega
 simp only[List.cons.injEq,and_true] at hc0 hc1 hc2;subst hc0 hc1 hc2;refine⟨l,c0,c1,c2,?_,hs,op,oc,by omega⟩;obtain⟨ll⟩:=cs;simp only at hcs;rw[hcs]
def k6b:Value:=.agg #[.slice none 0 0,.slice none 0 0,.slice none 0 0]
def k8q{H:Type}:DataW H:=.agg [.nil,.nil,.nil]
end Go.Proofs.YtlfmlodanoolhaaGreatDoor
