import Derived.WalkSpells
import Derived.WalkLawsBesides
import Derived.Test.YtlfmlodanoolhaaGreatDoorE4
set_option linter.all false
set_option maxRecDepth 200000
set_option maxHeartbeats 32000000
namespace Go.Proofs.YtlfmlodanoolhaaGreatDoor
open Go Go.RowKit Go.Proofs.Tryz
attribute [local go_sem] z0f
theorem q1c{a b:ByteArray}(h:¬a=b):(a.toList==b.toList)=false:=by
 refine beq_eq_false_iff_ne.2 fun e=>h ?_
 rw[ByteArray.toList_eq,ByteArray.toList_eq] at e;cases a;cases b;simp at e;rw[e]
def z2f(s d:Nat):Value:=.agg #[.int .i64 s,.int .i64 d]
theorem z2d(s d s' d':Nat)(w:World)(hs:s≤4000000000)(hs':s'≤4000000000):
 Calls Tryz.prog 125 #[z2f s d,z2f s' d'] w fun e w'=>e=.returned (z2f (s+s') (max d d'))∧Ext w w':=by
 unfold z2f;go_enter func125,ntmps125
 go_wp2
 all_goals
  refine bodyPost_ret (v:=z2f (s+s') (max d d')) ?_ rfl ⟨rfl,((y1v _ _).alloc _).alloc _⟩;simp[results,results125,go_sem,z2f];omega
theorem q5z(s d:Nat)(w:World)(hs:s≤4000000000)(hd:d≤4000000000):
 Calls Tryz.prog 132 #[z2f s d] w fun e w'=>e=.returned (z2f (1+s) (1+d))∧Ext w w':=by
 unfold z2f;go_enter func132,ntmps132
 go_wp2
 exact bodyPost_ret (v:=z2f (1+s) (1+d)) (by simp[results,results132,go_sem,z2f];omega) rfl ⟨rfl,(y1v _ _).alloc _⟩
theorem q6m(f:Nat)(hcall:Enters Tryz.prog f)(sz dp:X→Nat)(B:Nat)(l:List X)(hf:∀x,x∈l→∀(w:World) (cs:List Value),RX w B x cs→B≤w.heap.size→
 Calls Tryz.prog f #[.agg cs.toArray] w fun e w'=>e=.returned (z2f (sz x) (dp x))∧Ext w w')
 (w:World) (v:Value) (hS:Sl (RX w B) w B 6 l v) (hB:B≤w.heap.size) (hsz:z0e sz l≤1000000000) (hpos:∀x,1≤sz x):
 Calls Tryz.prog 168 #[v,.func (.func f) #[] #[]] w fun e w'=>e=.returned (z2f (z0e sz l) (z0j dp l))∧Ext w w':=by
 obtain⟨a,cap,rfl,hcap,hrow⟩:=hS;have hln:=z0b sz l hpos;have HF:=Hd hf;have hcf:=hcall.o;clear hf hcall hpos;go_enter func168,ntmps168;go_wp2_with fail
 go_loopw [10] (fun i wr=>∃k:Nat,k≤l.length∧i=.int .i64 k∧Ext w wr∧Blk wr w.heap.size 141 [.int .i64 0,.int .i64 0]∧
  Blk wr (w.heap.size+1) 141 [.int .i64 (z0e sz (l.take k)),.int .i64 (z0j dp (l.take k))]) (fun i _=>l.length - (intOf i).toNat)
 case atStart=>exact⟨0,y1p _,rfl,(y1v _ _).alloc _,(y1w _ _ [_,_]).alloc _,by simpa [z0e,z0j] using y1w (w.alloc (.cells #[.int .i64 0,.int .i64 0] 141)) 141 [.int .i64 0,.int .i64 0]⟩
 case round=>
  obtain⟨k,hk,rfl,hx,hb0,hb1⟩:=hrel;have hz:=hb1.lt;by_cases hlt:k<l.length
  ·have hsu:=z2i sz l k hlt;have hdu:=z2j dp l k hlt;have hle:=z2z sz l (k+1);have hfk:=HF.o l[k] (y1l hlt);obtain⟨b,o,v0,v1,v2,v3,v4,v5,rfl,hbB,hR,hC,o0,o1,o2,o3,o4,o5⟩:=hrow.open6 hlt;obtain⟨d0,d1,d2,d3,d4,d5⟩:=(hC.ext hx).get6;generalize l[k]=y at*;have HS:=Hd hsu;have HD:=Hd hdu;have HFK:=Hd hfk;clear hC hrow hsu hdu hfk HF;obtain⟨m0,m1⟩:=hb1.get2;go_wp2_with fail
   obtain⟨W1,hW1,hx1,hbx⟩:=z6v wr v0 v1 v2 v3 v4 v5 40;rw[←hW1];have hxw:=hx.trans hx1;have hb0':=hb0.ext hx1;have hb1':=hb1.ext hx1;obtain⟨y0,y1,y2,y3,y4,y5⟩:=hbx.later6;obtain⟨n0,n1⟩:=hb1'.later2;obtain⟨p0,p1⟩:=hb1'.laterFree2;have HR:=Hd (fun e:Later W1=>hR.ext (hxw.trans e.ext) hB);have HB:=fun e:Later W1=>y1k hB (hxw.trans e.ext).size
   clear d0 d1 d2 d3 d4 d5 m0 m1 hW1 hR hbx;refine z0n (W:=W1) (by kernel_rfl) rfl (by kernel_rfl) (by kernel_rfl) (y1g _) ?_;dsimp only[List.dropLast]
   repeat (go_big_quiet_step (first
    |(go_at_call 125;refine y2a (z2d _ _ _ _ _ ?_ ?_)<;>(have:=HS.o;omega))
    |exact y2a (HFK.o _ _ (HR.o _) (HB _))))
   refine wpQuiet_nil ?_;intro e;unfold z2f;have hxe:=hxw.trans e.ext;have hbe:=(hb1'.ext e.ext).store2 (.int .i64 (z0e sz (l.take k)+sz y:Nat)) (.int .i64 (max (z0j dp (l.take k)) (dp y):Nat));have hbf:=((hb0'.ext e.ext).far (p:=⟨w.heap.size+1,0,none⟩) (by simp) (.int .i64 (z0e sz (l.take k)+sz y:Nat))).far (p:=⟨w.heap.size+1,1,none⟩) (by simp) (.int .i64 (max (z0j dp (l.take k)) (dp y):Nat));go_wp2_with fail
   go_roundw;case rel=>exact⟨k+1,by omega,by go_num,(hxe.setCell (by simp) _).setCell (by simp) _,hbf,by rw[HS.o,HD.o];exact hbe⟩
   case measure=>simp[intOf];omega
  ·obtain⟨m0,m1⟩:=hb1.get2;obtain⟨r0,r1⟩:=hb0.get2;obtain⟨g0,g1⟩:=hb0.free2;have:k=l.length:=by omega
   subst this;rw[List.take_length] at*;go_wp2_with fail
   have hb2:=(hb0.store2 (.int .i64 (z0e sz l)) (.int .i64 (z0j dp l)));refine bodyPost_ret (v:=z2f (z0e sz l) (z0j dp l)) ?_ rfl ⟨rfl,(hx.setCell (y1j _) _).setCell (y1j _) _⟩;obtain⟨q0,q1⟩:=hb2.get2;simp[results,results168,go_sem,q0,q1,z2f]
theorem j2s(f:Nat)(hcall:Enters Tryz.prog f)(sz dp:S→Nat)(B:Nat)(l:List S)(hf:∀x,x∈l→∀(w:World) (cs:List Value),RS w B x cs→B≤w.heap.size→
 Calls Tryz.prog f #[.agg cs.toArray] w fun e w'=>e=.returned (z2f (sz x) (dp x))∧Ext w w')
 (w:World) (v:Value) (hS:Sl (RS w B) w B 4 l v) (hB:B≤w.heap.size) (hsz:z0e sz l≤1000000000) (hpos:∀x,1≤sz x):
 Calls Tryz.prog 169 #[v,.func (.func f) #[] #[]] w fun e w'=>e=.returned (z2f (z0e sz l) (z0j dp l))∧Ext w w':=by
 obtain⟨a,cap,rfl,hcap,hrow⟩:=hS;have hln:=z0b sz l hpos;have HF:=Hd hf;have hcf:=hcall.o;clear hf hcall hpos;go_enter func169,ntmps169;go_wp2_with fail
 go_loopw [10] (fun i wr=>∃k:Nat,k≤l.length∧i=.int .i64 k∧Ext w wr∧Blk wr w.heap.size 141 [.int .i64 0,.int .i64 0]∧
  Blk wr (w.heap.size+1) 141 [.int .i64 (z0e sz (l.take k)),.int .i64 (z0j dp (l.take k))]) (fun i _=>l.length - (intOf i).toNat)
 case atStart=>exact⟨0,y1p _,rfl,(y1v _ _).alloc _,(y1w _ _ [_,_]).alloc _,by simpa [z0e,z0j] using y1w (w.alloc (.cells #[.int .i64 0,.int .i64 0] 141)) 141 [.int .i64 0,.int .i64 0]⟩
 case round=>
  obtain⟨k,hk,rfl,hx,hb0,hb1⟩:=hrel;have hz:=hb1.lt;by_cases hlt:k<l.length
  ·have hsu:=z2i sz l k hlt;have hdu:=z2j dp l k hlt;have hle:=z2z sz l (k+1);have hfk:=HF.o l[k] (y1l hlt);obtain⟨b,o,v0,v1,v2,v3,rfl,hbB,hR,hC,o0,o1,o2,o3⟩:=hrow.open4 hlt;obtain⟨d0,d1,d2,d3⟩:=(hC.ext hx).get4;generalize l[k]=y at*;have HS:=Hd hsu;have HD:=Hd hdu;have HFK:=Hd hfk;clear hC hrow hsu hdu hfk HF;obtain⟨m0,m1⟩:=hb1.get2;go_wp2_with fail
   obtain⟨W1,hW1,hx1,hbx⟩:=q2d wr v0 v1 v2 v3 177;rw[←hW1];have hxw:=hx.trans hx1;have hb0':=hb0.ext hx1;have hb1':=hb1.ext hx1;obtain⟨y0,y1,y2,y3⟩:=hbx.later4;obtain⟨n0,n1⟩:=hb1'.later2;obtain⟨p0,p1⟩:=hb1'.laterFree2;have HR:=Hd (fun e:Later W1=>hR.ext (hxw.trans e.ext) hB);have HB:=fun e:Later W1=>y1k hB (hxw.trans e.ext).size
   clear d0 d1 d2 d3 m0 m1 hW1 hR hbx;refine z0n (W:=W1) (by kernel_rfl) rfl (by kernel_rfl) (by kernel_rfl) (y1g _) ?_;dsimp only[List.dropLast]
   repeat (go_big_quiet_step (first
    |(go_at_call 125;refine y2a (z2d _ _ _ _ _ ?_ ?_)<;>(have:=HS.o;omega))
    |exact y2a (HFK.o _ _ (HR.o _) (HB _))))
   refine wpQuiet_nil ?_;intro e;unfold z2f;have hxe:=hxw.trans e.ext;have hbe:=(hb1'.ext e.ext).store2 (.int .i64 (z0e sz (l.take k)+sz y:Nat)) (.int .i64 (max (z0j dp (l.take k)) (dp y):Nat));have hbf:=((hb0'.ext e.ext).far (p:=⟨w.heap.size+1,0,none⟩) (by simp) (.int .i64 (z0e sz (l.take k)+sz y:Nat))).far (p:=⟨w.heap.size+1,1,none⟩) (by simp) (.int .i64 (max (z0j dp (l.take k)) (dp y):Nat));go_wp2_with fail
   go_roundw;case rel=>exact⟨k+1,by omega,by go_num,(hxe.setCell (by simp) _).setCell (by simp) _,hbf,by rw[HS.o,HD.o];exact hbe⟩
   case measure=>simp[intOf];omega
  ·obtain⟨m0,m1⟩:=hb1.get2;obtain⟨r0,r1⟩:=hb0.get2;obtain⟨g0,g1⟩:=hb0.free2;have:k=l.length:=by omega
   subst this;rw[List.take_length] at*;go_wp2_with fail
   have hb2:=(hb0.store2 (.int .i64 (z0e sz l)) (.int .i64 (z0j dp l)));refine bodyPost_ret (v:=z2f (z0e sz l) (z0j dp l)) ?_ rfl ⟨rfl,(hx.setCell (y1j _) _).setCell (y1j _) _⟩;obtain⟨q0,q1⟩:=hb2.get2;simp[results,results169,go_sem,q0,q1,z2f]
theorem q1g(f:Nat)(hcall:Enters Tryz.prog f)(sz dp:Bnd→Nat)(B:Nat)(l:List Bnd)(hf:∀x,x∈l→∀(w:World) (cs:List Value),RB w B x cs→B≤w.heap.size→
 Calls Tryz.prog f #[.agg cs.toArray] w fun e w'=>e=.returned (z2f (sz x) (dp x))∧Ext w w')
 (w:World) (v:Value) (hS:Sl (RB w B) w B 7 l v) (hB:B≤w.heap.size) (hsz:z0e sz l≤1000000000) (hpos:∀x,1≤sz x):
 Calls Tryz.prog 126 #[v,.func (.func f) #[] #[]] w fun e w'=>e=.returned (z2f (z0e sz l) (z0j dp l))∧Ext w w':=by
 obtain⟨a,cap,rfl,hcap,hrow⟩:=hS;have hln:=z0b sz l hpos;have HF:=Hd hf;have hcf:=hcall.o;clear hf hcall hpos;go_enter func126,ntmps126;go_wp2_with fail
 go_loopw [10] (fun i wr=>∃k:Nat,k≤l.length∧i=.int .i64 k∧Ext w wr∧Blk wr w.heap.size 141 [.int .i64 0,.int .i64 0]∧
  Blk wr (w.heap.size+1) 141 [.int .i64 (z0e sz (l.take k)),.int .i64 (z0j dp (l.take k))]) (fun i _=>l.length - (intOf i).toNat)
 case atStart=>exact⟨0,y1p _,rfl,(y1v _ _).alloc _,(y1w _ _ [_,_]).alloc _,by simpa [z0e,z0j] using y1w (w.alloc (.cells #[.int .i64 0,.int .i64 0] 141)) 141 [.int .i64 0,.int .i64 0]⟩
 case round=>
  obtain⟨k,hk,rfl,hx,hb0,hb1⟩:=hrel;have hz:=hb1.lt;by_cases hlt:k<l.length
  ·have hsu:=z2i sz l k hlt;have hdu:=z2j dp l k hlt;have hle:=z2z sz l (k+1);have hfk:=HF.o l[k] (y1l hlt);obtain⟨b,o,v0,v1,v2,v3,v4,v5,v6,rfl,hbB,hR,hC,o0,o1,o2,o3,o4,o5,o6⟩:=hrow.open7 hlt;obtain⟨d0,d1,d2,d3,d4,d5,d6⟩:=(hC.ext hx).get7;generalize l[k]=y at*;have HS:=Hd hsu;have HD:=Hd hdu;have HFK:=Hd hfk;clear hC hrow hsu hdu hfk HF;obtain⟨m0,m1⟩:=hb1.get2;go_wp2_with fail
   obtain⟨W1,hW1,hx1,hbx⟩:=k5c wr v0 v1 v2 v3 v4 v5 v6 45;rw[←hW1];have hxw:=hx.trans hx1;have hb0':=hb0.ext hx1;have hb1':=hb1.ext hx1;obtain⟨y0,y1,y2,y3,y4,y5,y6⟩:=hbx.later7;obtain⟨n0,n1⟩:=hb1'.later2;obtain⟨p0,p1⟩:=hb1'.laterFree2;have HR:=Hd (fun e:Later W1=>hR.ext (hxw.trans e.ext) hB);have HB:=fun e:Later W1=>y1k hB (hxw.trans e.ext).size
   clear d0 d1 d2 d3 d4 d5 d6 m0 m1 hW1 hR hbx;refine z0n (W:=W1) (by kernel_rfl) rfl (by kernel_rfl) (by kernel_rfl) (y1g _) ?_;dsimp only[List.dropLast]
   repeat (go_big_quiet_step (first
    |(go_at_call 125;refine y2a (z2d _ _ _ _ _ ?_ ?_)<;>(have:=HS.o;omega))
    |exact y2a (HFK.o _ _ (HR.o _) (HB _))))
   refine wpQuiet_nil ?_;intro e;unfold z2f;have hxe:=hxw.trans e.ext;have hbe:=(hb1'.ext e.ext).store2 (.int .i64 (z0e sz (l.take k)+sz y:Nat)) (.int .i64 (max (z0j dp (l.take k)) (dp y):Nat));have hbf:=((hb0'.ext e.ext).far (p:=⟨w.heap.size+1,0,none⟩) (by simp) (.int .i64 (z0e sz (l.take k)+sz y:Nat))).far (p:=⟨w.heap.size+1,1,none⟩) (by simp) (.int .i64 (max (z0j dp (l.take k)) (dp y):Nat));go_wp2_with fail
   go_roundw;case rel=>exact⟨k+1,by omega,by go_num,(hxe.setCell (by simp) _).setCell (by simp) _,hbf,by rw[HS.o,HD.o];exact hbe⟩
   case measure=>simp[intOf];omega
  ·obtain⟨m0,m1⟩:=hb1.get2;obtain⟨r0,r1⟩:=hb0.get2;obtain⟨g0,g1⟩:=hb0.free2;have:k=l.length:=by omega
   subst this;rw[List.take_length] at*;go_wp2_with fail
   have hb2:=(hb0.store2 (.int .i64 (z0e sz l)) (.int .i64 (z0j dp l)));refine bodyPost_ret (v:=z2f (z0e sz l) (z0j dp l)) ?_ rfl ⟨rfl,(hx.setCell (y1j _) _).setCell (y1j _) _⟩;obtain⟨q0,q1⟩:=hb2.get2;simp[results,results126,go_sem,q0,q1,z2f]
theorem j4u(f:Nat)(hcall:Enters Tryz.prog f)(sz dp:Prt→Nat)(B:Nat)(l:List Prt)(hf:∀x,x∈l→∀(w:World) (cs:List Value),RP w B x cs→B≤w.heap.size→
 Calls Tryz.prog f #[.agg cs.toArray] w fun e w'=>e=.returned (z2f (sz x) (dp x))∧Ext w w')
 (w:World) (v:Value) (hS:Sl (RP w B) w B 8 l v) (hB:B≤w.heap.size) (hsz:z0e sz l≤1000000000) (hpos:∀x,1≤sz x):
 Calls Tryz.prog 128 #[v,.func (.func f) #[] #[]] w fun e w'=>e=.returned (z2f (z0e sz l) (z0j dp l))∧Ext w w':=by
 obtain⟨a,cap,rfl,hcap,hrow⟩:=hS;have hln:=z0b sz l hpos;have HF:=Hd hf;have hcf:=hcall.o;clear hf hcall hpos;go_enter func128,ntmps128;go_wp2_with fail
 go_loopw [10] (fun i wr=>∃k:Nat,k≤l.length∧i=.int .i64 k∧Ext w wr∧Blk wr w.heap.size 141 [.int .i64 0,.int .i64 0]∧
  Blk wr (w.heap.size+1) 141 [.int .i64 (z0e sz (l.take k)),.int .i64 (z0j dp (l.take k))]) (fun i _=>l.length - (intOf i).toNat)
 case atStart=>exact⟨0,y1p _,rfl,(y1v _ _).alloc _,(y1w _ _ [_,_]).alloc _,by simpa [z0e,z0j] using y1w (w.alloc (.cells #[.int .i64 0,.int .i64 0] 141)) 141 [.int .i64 0,.int .i64 0]⟩
 case round=>
  obtain⟨k,hk,rfl,hx,hb0,hb1⟩:=hrel;have hz:=hb1.lt;by_cases hlt:k<l.length
  ·have hsu:=z2i sz l k hlt;have hdu:=z2j dp l k hlt;have hle:=z2z sz l (k+1);have hfk:=HF.o l[k] (y1l hlt);obtain⟨b,o,v0,v1,v2,v3,v4,v5,v6,v7,rfl,hbB,hR,hC,o0,o1,o2,o3,o4,o5,o6,o7⟩:=hrow.open8 hlt;obtain⟨d0,d1,d2,d3,d4,d5,d6,d7⟩:=(hC.ext hx).get8;generalize l[k]=y at*;have HS:=Hd hsu;have HD:=Hd hdu;have HFK:=Hd hfk;clear hC hrow hsu hdu hfk HF;obtain⟨m0,m1⟩:=hb1.get2;go_wp2_with fail
   obtain⟨W1,hW1,hx1,hbx⟩:=q7r wr v0 v1 v2 v3 v4 v5 v6 v7 42;rw[←hW1];have hxw:=hx.trans hx1;have hb0':=hb0.ext hx1;have hb1':=hb1.ext hx1;obtain⟨y0,y1,y2,y3,y4,y5,y6,y7⟩:=hbx.later8;obtain⟨n0,n1⟩:=hb1'.later2;obtain⟨p0,p1⟩:=hb1'.laterFree2;have HR:=Hd (fun e:Later W1=>hR.ext (hxw.trans e.ext) hB);have HB:=fun e:Later W1=>y1k hB (hxw.trans e.ext).size
   clear d0 d1 d2 d3 d4 d5 d6 d7 m0 m1 hW1 hR hbx;refine z0n (W:=W1) (by kernel_rfl) rfl (by kernel_rfl) (by kernel_rfl) (y1g _) ?_;dsimp only[List.dropLast]
   repeat (go_big_quiet_step (first
    |(go_at_call 125;refine y2a (z2d _ _ _ _ _ ?_ ?_)<;>(have:=HS.o;omega))
    |exact y2a (HFK.o _ _ (HR.o _) (HB _))))
   refine wpQuiet_nil ?_;intro e;unfold z2f;have hxe:=hxw.trans e.ext;have hbe:=(hb1'.ext e.ext).store2 (.int .i64 (z0e sz (l.take k)+sz y:Nat)) (.int .i64 (max (z0j dp (l.take k)) (dp y):Nat));have hbf:=((hb0'.ext e.ext).far (p:=⟨w.heap.size+1,0,none⟩) (by simp) (.int .i64 (z0e sz (l.take k)+sz y:Nat))).far (p:=⟨w.heap.size+1,1,none⟩) (by simp) (.int .i64 (max (z0j dp (l.take k)) (dp y):Nat));go_wp2_with fail
   go_roundw;case rel=>exact⟨k+1,by omega,by go_num,(hxe.setCell (by simp) _).setCell (by simp) _,hbf,by rw[HS.o,HD.o];exact hbe⟩
   case measure=>simp[intOf];omega
  ·obtain⟨m0,m1⟩:=hb1.get2;obtain⟨r0,r1⟩:=hb0.get2;obtain⟨g0,g1⟩:=hb0.free2;have:k=l.length:=by omega
   subst this;rw[List.take_length] at*;go_wp2_with fail
   have hb2:=(hb0.store2 (.int .i64 (z0e sz l)) (.int .i64 (z0j dp l)));refine bodyPost_ret (v:=z2f (z0e sz l) (z0j dp l)) ?_ rfl ⟨rfl,(hx.setCell (y1j _) _).setCell (y1j _) _⟩;obtain⟨q0,q1⟩:=hb2.get2;simp[results,results128,go_sem,q0,q1,z2f]
theorem q1f(f:Nat)(hcall:Enters Tryz.prog f)(sz dp:Itm→Nat)(B:Nat)(l:List Itm)(hf:∀x,x∈l→∀(w:World) (cs:List Value),RI w B x cs→B≤w.heap.size→
 Calls Tryz.prog f #[.agg cs.toArray] w fun e w'=>e=.returned (z2f (sz x) (dp x))∧Ext w w')
 (w:World) (v:Value) (hS:Sl (RI w B) w B 9 l v) (hB:B≤w.heap.size) (hsz:z0e sz l≤1000000000) (hpos:∀x,1≤sz x):
 Calls Tryz.prog 130 #[v,.func (.func f) #[] #[]] w fun e w'=>e=.returned (z2f (z0e sz l) (z0j dp l))∧Ext w w':=by
 obtain⟨a,cap,rfl,hcap,hrow⟩:=hS;have hln:=z0b sz l hpos;have HF:=Hd hf;have hcf:=hcall.o;clear hf hcall hpos;go_enter func130,ntmps130;go_wp2_with fail
 go_loopw [10] (fun i wr=>∃k:Nat,k≤l.length∧i=.int .i64 k∧Ext w wr∧Blk wr w.heap.size 141 [.int .i64 0,.int .i64 0]∧
  Blk wr (w.heap.size+1) 141 [.int .i64 (z0e sz (l.take k)),.int .i64 (z0j dp (l.take k))]) (fun i _=>l.length - (intOf i).toNat)
 case atStart=>exact⟨0,y1p _,rfl,(y1v _ _).alloc _,(y1w _ _ [_,_]).alloc _,by simpa [z0e,z0j] using y1w (w.alloc (.cells #[.int .i64 0,.int .i64 0] 141)) 141 [.int .i64 0,.int .i64 0]⟩
 case round=>
  obtain⟨k,hk,rfl,hx,hb0,hb1⟩:=hrel;have hz:=hb1.lt;by_cases hlt:k<l.length
  ·have hsu:=z2i sz l k hlt;have hdu:=z2j dp l k hlt;have hle:=z2z sz l (k+1);have hfk:=HF.o l[k] (y1l hlt);obtain⟨b,o,v0,v1,v2,v3,v4,v5,v6,v7,v8,rfl,hbB,hR,hC,o0,o1,o2,o3,o4,o5,o6,o7,o8⟩:=hrow.open9 hlt;obtain⟨d0,d1,d2,d3,d4,d5,d6,d7,d8⟩:=(hC.ext hx).get9;generalize l[k]=y at*;have HS:=Hd hsu;have HD:=Hd hdu;have HFK:=Hd hfk;clear hC hrow hsu hdu hfk HF;obtain⟨m0,m1⟩:=hb1.get2;go_wp2_with fail
   obtain⟨W1,hW1,hx1,hbx⟩:=q0y wr v0 v1 v2 v3 v4 v5 v6 v7 v8 37;rw[←hW1];have hxw:=hx.trans hx1;have hb0':=hb0.ext hx1;have hb1':=hb1.ext hx1;obtain⟨y0,y1,y2,y3,y4,y5,y6,y7,y8⟩:=hbx.later9;obtain⟨n0,n1⟩:=hb1'.later2;obtain⟨p0,p1⟩:=hb1'.laterFree2;have HR:=Hd (fun e:Later W1=>hR.ext (hxw.trans e.ext) hB);have HB:=fun e:Later W1=>y1k hB (hxw.trans e.ext).size
   clear d0 d1 d2 d3 d4 d5 d6 d7 d8 m0 m1 hW1 hR hbx;refine z0n (W:=W1) (by kernel_rfl) rfl (by kernel_rfl) (by kernel_rfl) (y1g _) ?_;dsimp only[List.dropLast]
   repeat (go_big_quiet_step (first
    |(go_at_call 125;refine y2a (z2d _ _ _ _ _ ?_ ?_)<;>(have:=HS.o;omega))
    |exact y2a (HFK.o _ _ (HR.o _) (HB _))))
   refine wpQuiet_nil ?_;intro e;unfold z2f;have hxe:=hxw.trans e.ext;have hbe:=(hb1'.ext e.ext).store2 (.int .i64 (z0e sz (l.take k)+sz y:Nat)) (.int .i64 (max (z0j dp (l.take k)) (dp y):Nat));have hbf:=((hb0'.ext e.ext).far (p:=⟨w.heap.size+1,0,none⟩) (by simp) (.int .i64 (z0e sz (l.take k)+sz y:Nat))).far (p:=⟨w.heap.size+1,1,none⟩) (by simp) (.int .i64 (max (z0j dp (l.take k)) (dp y):Nat));go_wp2_with fail
   go_roundw;case rel=>exact⟨k+1,by omega,by go_num,(hxe.setCell (by simp) _).setCell (by simp) _,hbf,by rw[HS.o,HD.o];exact hbe⟩
   case measure=>simp[intOf];omega
  ·obtain⟨m0,m1⟩:=hb1.get2;obtain⟨r0,r1⟩:=hb0.get2;obtain⟨g0,g1⟩:=hb0.free2;have:k=l.length:=by omega
   subst this;rw[List.take_length] at*;go_wp2_with fail
   have hb2:=(hb0.store2 (.int .i64 (z0e sz l)) (.int .i64 (z0j dp l)));refine bodyPost_ret (v:=z2f (z0e sz l) (z0j dp l)) ?_ rfl ⟨rfl,(hx.setCell (y1j _) _).setCell (y1j _) _⟩;obtain⟨q0,q1⟩:=hb2.get2;simp[results,results130,go_sem,q0,q1,z2f]
theorem j4v(f:Nat)(hcall:Enters Tryz.prog f)(sz dp:Mdl→Nat)(B:Nat)(l:List Mdl)(hf:∀x,x∈l→∀(w:World) (cs:List Value),RM w B x cs→B≤w.heap.size→
 Calls Tryz.prog f #[.agg cs.toArray] w fun e w'=>e=.returned (z2f (sz x) (dp x))∧Ext w w')
 (w:World) (v:Value) (hS:Sl (RM w B) w B 4 l v) (hB:B≤w.heap.size) (hsz:z0e sz l≤1000000000) (hpos:∀x,1≤sz x):
 Calls Tryz.prog 87 #[v,.func (.func f) #[] #[]] w fun e w'=>e=.returned (z2f (z0e sz l) (z0j dp l))∧Ext w w':=by
 obtain⟨a,cap,rfl,hcap,hrow⟩:=hS;have hln:=z0b sz l hpos;have HF:=Hd hf;have hcf:=hcall.o;clear hf hcall hpos;go_enter func87,ntmps87;go_wp2_with fail
 go_loopw [10] (fun i wr=>∃k:Nat,k≤l.length∧i=.int .i64 k∧Ext w wr∧Blk wr w.heap.size 141 [.int .i64 0,.int .i64 0]∧
  Blk wr (w.heap.size+1) 141 [.int .i64 (z0e sz (l.take k)),.int .i64 (z0j dp (l.take k))]) (fun i _=>l.length - (intOf i).toNat)
 case atStart=>exact⟨0,y1p _,rfl,(y1v _ _).alloc _,(y1w _ _ [_,_]).alloc _,by simpa [z0e,z0j] using y1w (w.alloc (.cells #[.int .i64 0,.int .i64 0] 141)) 141 [.int .i64 0,.int .i64 0]⟩
 case round=>
  obtain⟨k,hk,rfl,hx,hb0,hb1⟩:=hrel;have hz:=hb1.lt;by_cases hlt:k<l.length
  ·have hsu:=z2i sz l k hlt;have hdu:=z2j dp l k hlt;have hle:=z2z sz l (k+1);have hfk:=HF.o l[k] (y1l hlt);obtain⟨b,o,v0,v1,v2,v3,rfl,hbB,hR,hC,o0,o1,o2,o3⟩:=hrow.open4 hlt;obtain⟨d0,d1,d2,d3⟩:=(hC.ext hx).get4;generalize l[k]=y at*;have HS:=Hd hsu;have HD:=Hd hdu;have HFK:=Hd hfk;clear hC hrow hsu hdu hfk HF;obtain⟨m0,m1⟩:=hb1.get2;go_wp2_with fail
   obtain⟨W1,hW1,hx1,hbx⟩:=q2d wr v0 v1 v2 v3 30;rw[←hW1];have hxw:=hx.trans hx1;have hb0':=hb0.ext hx1;have hb1':=hb1.ext hx1;obtain⟨y0,y1,y2,y3⟩:=hbx.later4;obtain⟨n0,n1⟩:=hb1'.later2;obtain⟨p0,p1⟩:=hb1'.laterFree2;have HR:=Hd (fun e:Later W1=>hR.ext (hxw.trans e.ext) hB);have HB:=fun e:Later W1=>y1k hB (hxw.trans e.ext).size
   clear d0 d1 d2 d3 m0 m1 hW1 hR hbx;refine z0n (W:=W1) (by kernel_rfl) rfl (by kernel_rfl) (by kernel_rfl) (y1g _) ?_;dsimp only[List.dropLast]
   repeat (go_big_quiet_step (first
    |(go_at_call 125;refine y2a (z2d _ _ _ _ _ ?_ ?_)<;>(have:=HS.o;omega))
    |exact y2a (HFK.o _ _ (HR.o _) (HB _))))
   refine wpQuiet_nil ?_;intro e;unfold z2f;have hxe:=hxw.trans e.ext;have hbe:=(hb1'.ext e.ext).store2 (.int .i64 (z0e sz (l.take k)+sz y:Nat)) (.int .i64 (max (z0j dp (l.take k)) (dp y):Nat));have hbf:=((hb0'.ext e.ext).far (p:=⟨w.heap.size+1,0,none⟩) (by simp) (.int .i64 (z0e sz (l.take k)+sz y:Nat))).far (p:=⟨w.heap.size+1,1,none⟩) (by simp) (.int .i64 (max (z0j dp (l.take k)) (dp y):Nat));go_wp2_with fail
   go_roundw;case rel=>exact⟨k+1,by omega,by go_num,(hxe.setCell (by simp) _).setCell (by simp) _,hbf,by rw[HS.o,HD.o];exact hbe⟩
   case measure=>simp[intOf];omega
  ·obtain⟨m0,m1⟩:=hb1.get2;obtain⟨r0,r1⟩:=hb0.get2;obtain⟨g0,g1⟩:=hb0.free2;have:k=l.length:=by omega
   subst this;rw[List.take_length] at*;go_wp2_with fail
   have hb2:=(hb0.store2 (.int .i64 (z0e sz l)) (.int .i64 (z0j dp l)));refine bodyPost_ret (v:=z2f (z0e sz l) (z0j dp l)) ?_ rfl ⟨rfl,(hx.setCell (y1j _) _).setCell (y1j _) _⟩;obtain⟨q0,q1⟩:=hb2.get2;simp[results,results87,go_sem,q0,q1,z2f]
theorem q1w:Enters Tryz.prog 167:=⟨fun _ _=>by kernel_rfl⟩
theorem q6c:Enters Tryz.prog 170:=⟨fun _ _=>by kernel_rfl⟩
theorem q1y:Enters Tryz.prog 127:=⟨fun _ _=>by kernel_rfl⟩
theorem j6e:Enters Tryz.prog 129:=⟨fun _ _=>by kernel_rfl⟩
theorem q1x:Enters Tryz.prog 131:=⟨fun _ _=>by kernel_rfl⟩
theorem j6f:Enters Tryz.prog 88:=⟨fun _ _=>by kernel_rfl⟩
theorem q3y(B:Nat)(x:X):∀(w:World) (cs:List Value),RX w B x cs→B≤w.heap.size→z0l x≤1000000000→
 Calls Tryz.prog 167 #[.agg cs.toArray] w fun e w'=>e=.returned (z2f (z0l x) (z2o x))∧Ext w w':=by
 induction x using X.ind with
 |h x ih=>
 intro w cs hR hB hsz;obtain⟨v,rfl,hS⟩:=RX_iff.1 hR;have hs0:1+z0e z0l x.l≤1000000000:=by rw[←z3u];exact hsz
 have hdl:=z8o x.l;have hmem:=Hd (fun y (hy:y∈x.l)=>z0g z0l x.l y hy);rw[z3u,q0p];have IH:=Hd ih;have HS:=Hd hS;have ho:=hS.oneCell;generalize x.op=op at*;generalize x.name=nm at*;generalize x.n=n at*;generalize x.w=wd at*;generalize x.v=xv at*;generalize x.l=l at*;clear hR hsz ih hS;go_enter func167,ntmps167;go_wp2_with fail
 obtain⟨W1,hW1,hx1,hb1⟩:=z6v w (.int .i64 op) (.string nm) (.int .i64 n) (.int .i64 wd) (.int .u64 xv) v 40;rw[←hW1];have hz1:=z3i hW1;clear hW1;obtain⟨W2,hW2,hx2,hb2⟩:=q7l W1 (.int .i64 0) (.int .i64 0) 141;rw[←hW2];have hz2:=z3i hW2;clear hW2;rw[hz1] at hb2 hz2;have hx:=hx1.trans hx2;have hb1':=hb1.ext hx2;have hB2:B≤W2.heap.size:=by omega
 refine(q6m _ q1w z0l z2o B l (fun y hy w cs h1 h2=>IH.o y hy w cs h1 h2 (by have:=hmem.o y hy;omega)) _ v (HS.o.extRX hx hB) hB2 (by omega) z1n).mono ?_;rintro e w1 ⟨rfl,hb4⟩;go_wp2_with fail
 refine(q5z _ _ _ (by omega) (by omega)).mono ?_;rintro e w2 ⟨rfl,hb5⟩;unfold z2f;obtain⟨s1,hs1⟩:∃n,n=1+z0e z0l l:=⟨_,rfl⟩;obtain⟨d1,hd1⟩:∃n,n=1+z0j z2o l:=⟨_,rfl⟩;rw[←hs1,←hd1];have H1:=Hd hs1;have H2:=Hd hd1;clear hs1 hd1;have hx9:=(hx.trans hb4).trans hb5;have hb9:=(hb2.ext hb4).ext hb5;have hbf:=hb9.store2 (.int .i64 s1) (.int .i64 d1);obtain⟨r0,r1⟩:=hb9.get2;obtain⟨g0,g1⟩:=hb9.free2;go_wp2_with fail
 refine bodyPost_ret (v:=z2f s1 d1) ?_ rfl ⟨by rw[H1.o,H2.o],(hx9.setCell (by simp) _).setCell (by simp) _⟩;obtain⟨q0,q1⟩:=hbf.get2;simp[results,results167,go_sem,q0,q1,z2f]
theorem j1k(B:Nat)(x:Bnd)(w:World)(cs:List Value)(hR:RB w B x cs)(hB:B≤w.heap.size)(hsz:z1c x≤1000000000):
 Calls Tryz.prog 127 #[.agg cs.toArray] w fun e w'=>e=.returned (z2f (z1c x) (z7m x))∧Ext w w':=by
 have hs0:1+z0l x.x≤1000000000:=hsz;have hdl:=z8y x.x;obtain⟨cs,rfl,hX⟩:=hR;obtain⟨v,rfl,hS⟩:=RX_iff.1 hX;have ho:=hS.oneCell;unfold z1c z7m;have HX:=Hd hX;generalize x.name=nm at*;generalize x.x=y at*;clear hX hS hsz;go_enter func127,ntmps127;go_wp2_with fail
 obtain⟨W1,hW1,hx1,hb1⟩:=k5c w (.string nm) (.int .i64 y.op) (.string y.name) (.int .i64 y.n) (.int .i64 y.w) (.int .u64 y.v) v 45;rw[←hW1];have hz1:=z3i hW1;clear hW1;obtain⟨W2,hW2,hx2,hb2⟩:=q7l W1 (.int .i64 0) (.int .i64 0) 141;rw[←hW2];have hz2:=z3i hW2;clear hW2;rw[hz1] at hb2 hz2;have hx:=hx1.trans hx2;have hb1':=hb1.ext hx2;have hB2:B≤W2.heap.size:=by omega
 obtain⟨c0,c1,c2,c3,c4,c5,c6⟩:=hb1'.get7;go_wp2_with fail
 refine(q3y B y _ _ (HX.o.ext hx hB) hB2 (by omega)).mono ?_;rintro e w1 ⟨rfl,hb4⟩;go_wp2_with fail
 refine(q5z _ _ _ (by omega) (by omega)).mono ?_;rintro e w2 ⟨rfl,hb5⟩;unfold z2f;obtain⟨s1,hs1⟩:∃n,n=1+z0l y:=⟨_,rfl⟩;obtain⟨d1,hd1⟩:∃n,n=1+z2o y:=⟨_,rfl⟩;rw[←hs1,←hd1];have H1:=Hd hs1;have H2:=Hd hd1;clear hs1 hd1;have hx9:=(hx.trans hb4).trans hb5;have hb9:=(hb2.ext hb4).ext hb5;have hbf:=hb9.store2 (.int .i64 s1) (.int .i64 d1);obtain⟨r0,r1⟩:=hb9.get2;obtain⟨g0,g1⟩:=hb9.free2;go_wp2_with fail
 refine bodyPost_ret (v:=z2f s1 d1) ?_ rfl ⟨by rw[H1.o,H2.o],(hx9.setCell (by simp) _).setCell (by simp) _⟩;obtain⟨q0,q1⟩:=hbf.get2;simp[results,results127,go_sem,q0,q1,z2f]
theorem k6v(B:Nat)(x:Prt)(w:World)(cs:List Value)(hR:RP w B x cs)(hB:B≤w.heap.size)(hsz:z3k x≤1000000000):
 Calls Tryz.prog 129 #[.agg cs.toArray] w fun e w'=>e=.returned (z2f (z3k x) (q7g x))∧Ext w w':=by
 have hs0:1+z0l x.w≤1000000000:=hsz;have hdl:=z8y x.w;obtain⟨cs,rfl,hX⟩:=hR;obtain⟨v,rfl,hS⟩:=RX_iff.1 hX;have ho:=hS.oneCell;unfold z3k q7g;have HX:=Hd hX;generalize x.name=nm at*;generalize x.o=ou at*;generalize x.w=y at*;clear hX hS hsz;go_enter func129,ntmps129;go_wp2_with fail
 obtain⟨W1,hW1,hx1,hb1⟩:=q7r w (.string nm) (.bool ou) (.int .i64 y.op) (.string y.name) (.int .i64 y.n) (.int .i64 y.w) (.int .u64 y.v) v 42;rw[←hW1];have hz1:=z3i hW1;clear hW1;obtain⟨W2,hW2,hx2,hb2⟩:=q7l W1 (.int .i64 0) (.int .i64 0) 141;rw[←hW2];have hz2:=z3i hW2;clear hW2;rw[hz1] at hb2 hz2;have hx:=hx1.trans hx2;have hb1':=hb1.ext hx2;have hB2:B≤W2.heap.size:=by omega
 obtain⟨c0,c1,c2,c3,c4,c5,c6,c7⟩:=hb1'.get8;go_wp2_with fail
 refine(q3y B y _ _ (HX.o.ext hx hB) hB2 (by omega)).mono ?_;rintro e w1 ⟨rfl,hb4⟩;go_wp2_with fail
 refine(q5z _ _ _ (by omega) (by omega)).mono ?_;rintro e w2 ⟨rfl,hb5⟩;unfold z2f;obtain⟨s1,hs1⟩:∃n,n=1+z0l y:=⟨_,rfl⟩;obtain⟨d1,hd1⟩:∃n,n=1+z2o y:=⟨_,rfl⟩;rw[←hs1,←hd1];have H1:=Hd hs1;have H2:=Hd hd1;clear hs1 hd1;have hx9:=(hx.trans hb4).trans hb5;have hb9:=(hb2.ext hb4).ext hb5;have hbf:=hb9.store2 (.int .i64 s1) (.int .i64 d1);obtain⟨r0,r1⟩:=hb9.get2;obtain⟨g0,g1⟩:=hb9.free2;go_wp2_with fail
 refine bodyPost_ret (v:=z2f s1 d1) ?_ rfl ⟨by rw[H1.o,H2.o],(hx9.setCell (by simp) _).setCell (by simp) _⟩;obtain⟨q0,q1⟩:=hbf.get2;simp[results,results129,go_sem,q0,q1,z2f]
theorem k6u(B:Nat)(x:S):∀(w:World) (cs:List Value),RS w B x cs→B≤w.heap.size→z0p x≤1000000000→
 Calls Tryz.prog 170 #[.agg cs.toArray] w fun e w'=>e=.returned (z2f (z0p x) (z6q x))∧Ext w w':=by
 induction x using S.ind with
 |h x ih=>
 intro w cs hR hB hsz;obtain⟨v2,v3,rfl,hX,hL⟩:=RS_iff.1 hR;have hs0:1+z0e z0l x.x+z0e z0p x.l≤1000000000:=by rw[←z0w];exact hsz
 have hd1:=z8o x.x;have hd2:=q4q x.l;have hmem1:=Hd (fun y (hy:y∈x.x)=>z0g z0l x.x y hy);have hmem2:=Hd (fun y (hy:y∈x.l)=>z0g z0p x.l y hy);rw[show z0p x=1+(z0e z0l x.x+z0e z0p x.l) by rw[z0w];omega,j4i];have IH:=Hd ih;have HX:=Hd hX;have HL:=Hd hL;have o2:=hX.oneCell;have o3:=hL.oneCell;generalize x.op=op at*;generalize x.name=nm at*;generalize x.x=yx at*;generalize x.l=yl at*;clear hR hsz ih hX hL;go_enter func170,ntmps170;go_wp2_with fail
 obtain⟨W1,hW1,hx1,hb1⟩:=q2d w (.int .i64 op) (.string nm) v2 v3 177;rw[←hW1];have hz1:=z3i hW1;clear hW1;obtain⟨W2,hW2,hx2,hb2⟩:=q7l W1 (.int .i64 0) (.int .i64 0) 141;rw[←hW2];have hz2:=z3i hW2;clear hW2;rw[hz1] at hb2 hz2;have hx:=hx1.trans hx2;have hb1':=hb1.ext hx2;have hB2:B≤W2.heap.size:=by omega
 obtain⟨c0,c1,c2,c3⟩:=hb1'.later4;have HB:=fun e:Later W2=>y1k hB2 e.ext.size
 go_wp2_with fail
 refine z0n (W:=W2) (by kernel_rfl) rfl (by kernel_rfl) (by kernel_rfl) (y1g _) ?_;dsimp only[List.dropLast]
 repeat (go_big_quiet_step (first
  |(go_at_call 168;exact y2a (q6m _ q1w z0l z2o B yx (fun y hy w cs h1 h2=>q3y B y w cs h1 h2 (by have:=hmem1.o y hy;omega)) _ _ (HX.o.extRX (hx.trans (y1i _)) hB) (HB _) (by omega) z1n))
  |(go_at_call 169;exact y2a (j2s _ q6c z0p z6q B yl (fun y hy w cs h1 h2=>IH.o y hy w cs h1 h2 (by have:=hmem2.o y hy;omega)) _ _ (HL.o.extRS (hx.trans (y1i _)) hB) (HB _) (by omega) z1o))
  |(go_at_call 125;refine y2a (z2d _ _ _ _ _ ?_ ?_)<;>omega)
  |(go_at_call 132;refine y2a (q5z _ _ _ ?_ ?_)<;>omega)))
 refine wpQuiet_nil ?_;intro e;unfold z2f;obtain⟨s1,hs1⟩:∃n,n=1+(z0e z0l yx+z0e z0p yl):=⟨_,rfl⟩;obtain⟨d1,hd1⟩:∃n,n=1+max (z0j z2o yx) (z0j z6q yl):=⟨_,rfl⟩;rw[←hs1,←hd1];have H1:=Hd hs1;have H2:=Hd hd1;clear hs1 hd1;have hx9:=hx.trans e.ext;have hb9:=hb2.ext e.ext;have hbf:=hb9.store2 (.int .i64 s1) (.int .i64 d1);obtain⟨r0,r1⟩:=hb9.get2;obtain⟨g0,g1⟩:=hb9.free2;go_wp2_with fail
 refine bodyPost_ret (v:=z2f s1 d1) ?_ rfl ⟨by rw[H1.o,H2.o],(hx9.setCell (by simp) _).setCell (by simp) _⟩;obtain⟨q0,q1⟩:=hbf.get2;simp[results,results170,go_sem,q0,q1,z2f]
theorem k6x(B:Nat)(x:Itm):∀(w:World) (cs:List Value),RI w B x cs→B≤w.heap.size→z0i x≤1000000000→
 Calls Tryz.prog 131 #[.agg cs.toArray] w fun e w'=>e=.returned (z2f (z0i x) (z4q x))∧Ext w w':=by
 induction x using Itm.ind with
 |h x ih1 ih2=>
 intro w cs hR hB hsz;obtain⟨v3,v4,v5,v6,v7,v8,rfl,hX,hS,hL,hE,hP,hBb⟩:=RI_iff.1 hR;have hs0:1+z0e z0l x.x+z0e z0p x.s+z0e z0i x.l+z0e z0i x.els+z0e z1c x.params+z0e z1c x.binds≤1000000000:=by rw[←z0r];exact hsz
 have hd1:=z8o x.x;have hd2:=q4q x.s;have hd3:=q0q x.l;have hd4:=q0q x.els;have hd5:=z6r x.params;have hd6:=z6r x.binds;have hmem1:=Hd (fun y (hy:y∈x.x)=>z0g z0l x.x y hy);have hmem2:=Hd (fun y (hy:y∈x.s)=>z0g z0p x.s y hy);have hmem3:=Hd (fun y (hy:y∈x.l)=>z0g z0i x.l y hy);have hmem4:=Hd (fun y (hy:y∈x.els)=>z0g z0i x.els y hy);have hmem5:=Hd (fun y (hy:y∈x.params)=>z0g z1c x.params y hy);have hmem6:=Hd (fun y (hy:y∈x.binds)=>z0g z1c x.binds y hy);rw[show z0i x=1+(z0e z0l x.x+z0e z0p x.s+z0e z0i x.l+z0e z0i x.els+z0e z1c x.params+z0e z1c x.binds) by rw[z0r];omega,j4j];have IH1:=Hd ih1;have IH2:=Hd ih2;have HX:=Hd hX;have HS:=Hd hS;have HL:=Hd hL;have HE:=Hd hE;have HP:=Hd hP;have HBb:=Hd hBb;have o3:=hX.oneCell;have o4:=hS.oneCell;have o5:=hL.oneCell;have o6:=hE.oneCell;have o7:=hP.oneCell;have o8:=hBb.oneCell;generalize x.op=op at*;generalize x.name=nm at*;generalize x.of=of at*;generalize x.x=yx at*;generalize x.s=ys at*;generalize x.l=yl at*;generalize x.els=ye at*;generalize x.params=yp at*;generalize x.binds=yb at*;clear hR hsz ih1 ih2 hX hS hL hE hP hBb;go_enter func131,ntmps131;go_wp2_with fail
 obtain⟨W1,hW1,hx1,hb1⟩:=q0y w (.int .i64 op) (.string nm) (.string of) v3 v4 v5 v6 v7 v8 37;rw[←hW1];have hz1:=z3i hW1;clear hW1;obtain⟨W2,hW2,hx2,hb2⟩:=q7l W1 (.int .i64 0) (.int .i64 0) 141;rw[←hW2];have hz2:=z3i hW2;clear hW2;rw[hz1] at hb2 hz2;have hx:=hx1.trans hx2;have hb1':=hb1.ext hx2;have hB2:B≤W2.heap.size:=by omega
 obtain⟨c0,c1,c2,c3,c4,c5,c6,c7,c8⟩:=hb1'.get9;go_wp2_with fail
 have G1:∀wa,Ext W2 wa→Calls Tryz.prog 168 #[v3,.func (.func 167) #[] #[]] wa fun e w'=>e=.returned (z2f (z0e z0l yx) (z0j z2o yx))∧Ext wa w':=fun wa h=>
  q6m _ q1w z0l z2o B yx (fun y hy w cs h1 h2=>q3y B y w cs h1 h2 (by have:=hmem1.o y hy;omega)) _ _ (HX.o.extRX (hx.trans h) hB) (by have:=h.size;omega) (by omega) z1n
 have G2:∀wa,Ext W2 wa→Calls Tryz.prog 169 #[v4,.func (.func 170) #[] #[]] wa fun e w'=>e=.returned (z2f (z0e z0p ys) (z0j z6q ys))∧Ext wa w':=fun wa h=>
  j2s _ q6c z0p z6q B ys (fun y hy w cs h1 h2=>k6u B y w cs h1 h2 (by have:=hmem2.o y hy;omega)) _ _ (HS.o.extRS (hx.trans h) hB) (by have:=h.size;omega) (by omega) z1o
 have G3:∀wa,Ext W2 wa→Calls Tryz.prog 130 #[v5,.func (.func 131) #[] #[]] wa fun e w'=>e=.returned (z2f (z0e z0i yl) (z0j z4q yl))∧Ext wa w':=fun wa h=>
  q1f _ q1x z0i z4q B yl (fun y hy w cs h1 h2=>IH1.o y hy w cs h1 h2 (by have:=hmem3.o y hy;omega)) _ _ (HL.o.extRI (hx.trans h) hB) (by have:=h.size;omega) (by omega) z1i
 have G4:∀wa,Ext W2 wa→Calls Tryz.prog 130 #[v6,.func (.func 131) #[] #[]] wa fun e w'=>e=.returned (z2f (z0e z0i ye) (z0j z4q ye))∧Ext wa w':=fun wa h=>
  q1f _ q1x z0i z4q B ye (fun y hy w cs h1 h2=>IH2.o y hy w cs h1 h2 (by have:=hmem4.o y hy;omega)) _ _ (HE.o.extRI (hx.trans h) hB) (by have:=h.size;omega) (by omega) z1i
 have G5:∀wa,Ext W2 wa→Calls Tryz.prog 126 #[v7,.func (.func 127) #[] #[]] wa fun e w'=>e=.returned (z2f (z0e z1c yp) (z0j z7m yp))∧Ext wa w':=fun wa h=>
  q1g _ q1y z1c z7m B yp (fun y hy w cs h1 h2=>j1k B y w cs h1 h2 (by have:=hmem5.o y hy;omega)) _ _ (HP.o.extRB (hx.trans h) hB) (by have:=h.size;omega) (by omega) z1z
 have G6:∀wa,Ext W2 wa→Calls Tryz.prog 126 #[v8,.func (.func 127) #[] #[]] wa fun e w'=>e=.returned (z2f (z0e z1c yb) (z0j z7m yb))∧Ext wa w':=fun wa h=>
  q1g _ q1y z1c z7m B yb (fun y hy w cs h1 h2=>j1k B y w cs h1 h2 (by have:=hmem6.o y hy;omega)) _ _ (HBb.o.extRB (hx.trans h) hB) (by have:=h.size;omega) (by omega) z1z
 have H1:=Hd G1;have H2:=Hd G2;have H3:=Hd G3;have H4:=Hd G4;have H5:=Hd G5;have H6:=Hd G6;clear G1 G2 G3 G4 G5 G6 HX HS HL HE HP HBb IH1 IH2 hmem1 hmem2 hmem3 hmem4 hmem5 hmem6
 obtain⟨vals,hvals⟩:∃vals:List Value,vals=[.pointer (some ⟨w.heap.size,3,none⟩),v3,z2f (z0e z0l yx) (z0j z2o yx),.pointer (some ⟨w.heap.size,4,none⟩),v4,z2f (z0e z0p ys) (z0j z6q ys),
  z2f (z0e z0l yx+z0e z0p ys) (max (z0j z2o yx) (z0j z6q ys)),.pointer (some ⟨w.heap.size,5,none⟩),v5,z2f (z0e z0i yl) (z0j z4q yl),
  z2f (z0e z0l yx+z0e z0p ys+z0e z0i yl) (max (max (z0j z2o yx) (z0j z6q ys)) (z0j z4q yl)),.pointer (some ⟨w.heap.size,6,none⟩),v6,z2f (z0e z0i ye) (z0j z4q ye),
  z2f (z0e z0l yx+z0e z0p ys+z0e z0i yl+z0e z0i ye) (max (max (max (z0j z2o yx) (z0j z6q ys)) (z0j z4q yl)) (z0j z4q ye))]:=⟨_,rfl⟩
 refine z9d (W:=W2) (fun i v w'=>if i=15 then(∃p,v=.pointer (some ⟨p,0,none⟩)∧W2.heap.size≤p∧Blk w' p 141 [.int .i64 0,.int .i64 0]) else v=vals.getD i undef) (by kernel_rfl) rfl (by kernel_rfl) (by kernel_rfl) (y1g _) ?_ ?_ ?_
 ·intro i v wa wb h hx;by_cases h15:i=15
  ·rw[if_pos h15] at h⊢;obtain⟨p,h1,h2,h3⟩:=h;exact⟨p,h1,h2,h3.ext hx⟩
  ·rw[if_neg h15] at h⊢;exact h
 ·subst hvals;refine⟨?_,?_,?_,?_,?_,?_,?_,?_,?_,?_,?_,?_,?_,?_,?_,?_,trivial⟩
  ·intro A wa hxa hd h0;have e1:=z0c h0 1 (by kernel_rfl);simp at e1;clear hd h0;go_simp;exact y1g _
  ·intro A wa hxa hd h0;have q0:=j2h (d:=4) hd rfl rfl;simp at q0;obtain⟨d0,d1,d2,d3,d4,d5,d6,d7,d8⟩:=(hb1'.ext hxa).get9;clear hd h0;go_simp;exact y1g _
  ·intro A wa hxa hd h0;have q0:=j2h (d:=5) hd rfl rfl;simp at q0;clear hd h0;go_simp;refine(H1.o _ hxa).mono ?_;rintro e w2 ⟨rfl,hx⟩;go_simp
  ·intro A wa hxa hd h0;have e1:=z0c h0 1 (by kernel_rfl);simp at e1;clear hd h0;go_simp;exact y1g _
  ·intro A wa hxa hd h0;have q0:=j2h (d:=7) hd rfl rfl;simp at q0;obtain⟨d0,d1,d2,d3,d4,d5,d6,d7,d8⟩:=(hb1'.ext hxa).get9;clear hd h0;go_simp;exact y1g _
  ·intro A wa hxa hd h0;have q0:=j2h (d:=8) hd rfl rfl;simp at q0;clear hd h0;go_simp;refine(H2.o _ hxa).mono ?_;rintro e w2 ⟨rfl,hx⟩;go_simp
  ·intro A wa hxa hd h0;have q0:=j2h (d:=6) hd rfl rfl;have q1:=j2h (d:=9) hd.2 rfl rfl;simp at q0 q1;clear hd h0;go_simp;refine(z2d _ _ _ _ _ (by omega) (by omega)).mono ?_;rintro e w2 ⟨rfl,hx⟩;go_simp
  ·intro A wa hxa hd h0;have e1:=z0c h0 1 (by kernel_rfl);simp at e1;clear hd h0;go_simp;exact y1g _
  ·intro A wa hxa hd h0;have q0:=j2h (d:=11) hd rfl rfl;simp at q0;obtain⟨d0,d1,d2,d3,d4,d5,d6,d7,d8⟩:=(hb1'.ext hxa).get9;clear hd h0;go_simp;exact y1g _
  ·intro A wa hxa hd h0;have q0:=j2h (d:=12) hd rfl rfl;simp at q0;clear hd h0;go_simp;refine(H3.o _ hxa).mono ?_;rintro e w2 ⟨rfl,hx⟩;go_simp
  ·intro A wa hxa hd h0;have q0:=j2h (d:=10) hd rfl rfl;have q1:=j2h (d:=13) hd.2 rfl rfl;simp at q0 q1;clear hd h0;go_simp;refine(z2d _ _ _ _ _ (by omega) (by omega)).mono ?_;rintro e w2 ⟨rfl,hx⟩;go_simp
  ·intro A wa hxa hd h0;have e1:=z0c h0 1 (by kernel_rfl);simp at e1;clear hd h0;go_simp;exact y1g _
  ·intro A wa hxa hd h0;have q0:=j2h (d:=15) hd rfl rfl;simp at q0;obtain⟨d0,d1,d2,d3,d4,d5,d6,d7,d8⟩:=(hb1'.ext hxa).get9;clear hd h0;go_simp;exact y1g _
  ·intro A wa hxa hd h0;have q0:=j2h (d:=16) hd rfl rfl;simp at q0;clear hd h0;go_simp;refine(H4.o _ hxa).mono ?_;rintro e w2 ⟨rfl,hx⟩;go_simp
  ·intro A wa hxa hd h0;have q0:=j2h (d:=14) hd rfl rfl;have q1:=j2h (d:=17) hd.2 rfl rfl;simp at q0 q1;clear hd h0;go_simp;refine(z2d _ _ _ _ _ (by omega) (by omega)).mono ?_;rintro e w2 ⟨rfl,hx⟩;go_simp
  ·intro A wa hxa hd h0;clear hd h0;go_simp;exact⟨_,rfl,(y1g _).alloc _,_,rfl,by have:=hxa.size;omega,y1w _ _ [_,_]⟩
 ·intro A wa hk;obtain⟨hxa,hsz,hdf,hdn,hrs⟩:=hk;obtain⟨p,t3,hp,hb3⟩:=hdn 15 3 rfl rfl;obtain⟨s4,hs4⟩:∃n,n=z0e z0l yx+z0e z0p ys+z0e z0i yl+z0e z0i ye:=⟨_,rfl⟩;obtain⟨d4,hd4'⟩:∃n,n=max (max (max (z0j z2o yx) (z0j z6q ys)) (z0j z4q yl)) (z0j z4q ye):=⟨_,rfl⟩;have t18:A.tmps[18]?.getD undef=z2f s4 d4:=by
   have h:=hdn 14 18 rfl rfl;subst hvals;rw[Array.getD_eq_getD_getElem?] at h;rw[hs4,hd4'];exact h
  clear hvals;have e1:=z0c hrs 1 (by kernel_rfl);have e2:=z0c hrs 2 (by kernel_rfl);clear hdn hrs;rw[z4x hsz hdf];simp[List.range,List.range.loop] at t3 e1 e2;simp[List.range,List.range.loop,t3,t18,e1,e2];clear t3 t18 e1 e2;have hsl:s4+z0e z1c yp+z0e z1c yb<1000000000:=by omega
  have hdl:d4≤s4:=by omega
  have S4:=Hd hs4;have D4:=Hd hd4';clear hs4 hd4';generalize A.tmps[0]?.getD undef=A0 at*;generalize A.tmps[4]?.getD undef=A4 at*;generalize A.tmps[5]?.getD undef=A5 at*;generalize A.tmps[6]?.getD undef=A6 at*;generalize A.tmps[7]?.getD undef=A7 at*;generalize A.tmps[8]?.getD undef=A8 at*;generalize A.tmps[9]?.getD undef=A9 at*;generalize A.tmps[10]?.getD undef=A10 at*;generalize A.tmps[11]?.getD undef=A11 at*;generalize A.tmps[12]?.getD undef=A12 at*;generalize A.tmps[13]?.getD undef=A13 at*;generalize A.tmps[14]?.getD undef=A14 at*;generalize A.tmps[15]?.getD undef=A15 at*;generalize A.tmps[16]?.getD undef=A16 at*;generalize A.tmps[17]?.getD undef=A17 at*;generalize A.tmps[19]?.getD undef=A19 at*;generalize A.tmps[20]?.getD undef=A20 at*;generalize A.tmps[21]?.getD undef=A21 at*;generalize A.tmps[22]?.getD undef=A22 at*;generalize A.tmps[23]?.getD undef=A23 at*;generalize A.tmps[24]?.getD undef=A24 at*;generalize A.tmps[25]?.getD undef=A25 at*;generalize A.tmps[26]?.getD undef=A26 at*;generalize A.tmps[27]?.getD undef=A27 at*;generalize A.tmps[28]?.getD undef=A28 at*;have hb4:=hb3.store2 (.int .i64 s4) (.int .i64 d4);have hx4:=(hxa.setCell (p:=⟨p,0,none⟩) hp (.int .i64 s4)).setCell (p:=⟨p,1,none⟩) hp (.int .i64 d4);obtain⟨m0,m1⟩:=hb3.get2;obtain⟨g0,g1⟩:=hb3.free2;unfold z2f;go_wp2_with fail
  generalize (wa.setCell ⟨p,0,none⟩ (.int .i64 s4)).setCell ⟨p,1,none⟩ (.int .i64 d4)=W3 at*;clear hb3 m0 m1 g0 g1 hxa;have hxw:=hx.trans hx4;obtain⟨l0,l1⟩:=hb4.later2;obtain⟨c0,c1,c2,c3,c4,c5,c6,c7,c8⟩:=(hb1'.ext hx4).later9;have hb5:=hb2.ext hx4;have G5:=Hd (fun e:Later W3=>H5.o _ (hx4.trans e.ext));have G6:=Hd (fun e:Later W3=>H6.o _ (hx4.trans e.ext));clear H1 H2 H3 H4 H5 H6 hb1' hb1 hx1 hx2 hb2;refine z0n (W:=W3) (by kernel_rfl) rfl (by kernel_rfl) (by kernel_rfl) (y1g _) ?_;dsimp only[List.dropLast]
  repeat (go_big_quiet_step (first
   |(go_at_call 125;refine y2a (z2d _ _ _ _ _ ?_ ?_)<;>omega)
   |(go_at_call 132;refine y2a (q5z _ _ _ ?_ ?_)<;>omega)
   |(go_at_call 126;with_reducible exact y2a (G5.o _))|(go_at_call 126;with_reducible exact y2a (G6.o _))))
  refine wpQuiet_nil ?_;intro e;unfold z2f;obtain⟨s1,hs1⟩:∃n,n=1+(s4+z0e z1c yp+z0e z1c yb):=⟨_,rfl⟩;obtain⟨d1,hd1⟩:∃n,n=1+max d4 (max (z0j z7m yp) (z0j z7m yb)):=⟨_,rfl⟩;rw[←hs1,←hd1];have K1:=Hd hs1;have K2:=Hd hd1;clear hs1 hd1;have hx9:=hxw.trans e.ext;have hb9:=hb5.ext e.ext;have hbf:=hb9.store2 (.int .i64 s1) (.int .i64 d1);obtain⟨r0,r1⟩:=hb9.get2;obtain⟨g0,g1⟩:=hb9.free2;go_wp2_with fail
  refine bodyPost_ret (v:=z2f s1 d1) ?_ rfl ⟨by congr 2<;>(have:=K1.o;have:=K2.o;have:=S4.o;have:=D4.o;omega),(hx9.setCell (by simp) _).setCell (by simp) _⟩;obtain⟨q0,q1⟩:=hbf.get2;simp[results,results131,go_sem,q0,q1,z2f]
theorem k6w(B:Nat)(x:Mdl)(w:World)(cs:List Value)(hR:RM w B x cs)(hB:B≤w.heap.size)(hsz:z0x x≤1000000000):
 Calls Tryz.prog 88 #[.agg cs.toArray] w fun e w'=>e=.returned (z2f (z0x x) (q1z x))∧Ext w w':=by
 obtain⟨v1,v2,v3,rfl,hP,hO,hI⟩:=hR;have hs0:1+z0e z1c x.params+z0e z3k x.ports+z0e z0i x.items≤1000000000:=hsz;have hd1:=z6r x.params;have hd2:=j0d x.ports;have hd3:=q0q x.items;have hmem1:=Hd (fun y (hy:y∈x.params)=>z0g z1c x.params y hy);have hmem2:=Hd (fun y (hy:y∈x.ports)=>z0g z3k x.ports y hy);have hmem3:=Hd (fun y (hy:y∈x.items)=>z0g z0i x.items y hy);rw[show z0x x=1+(z0e z1c x.params+z0e z3k x.ports+z0e z0i x.items) by unfold z0x;omega,show q1z x=1+max (max (z0j z7m x.params) (z0j q7g x.ports)) (z0j z4q x.items) from rfl];have HP:=Hd hP;have HO:=Hd hO;have HI:=Hd hI;have o1:=hP.oneCell;have o2:=hO.oneCell;have o3:=hI.oneCell;generalize x.name=nm at*;generalize x.params=yp at*;generalize x.ports=yo at*;generalize x.items=yi at*;clear hsz hP hO hI;go_enter func88,ntmps88;go_wp2_with fail
 obtain⟨W1,hW1,hx1,hb1⟩:=q2d w (.string nm) v1 v2 v3 30;rw[←hW1];have hz1:=z3i hW1;clear hW1;obtain⟨W2,hW2,hx2,hb2⟩:=q7l W1 (.int .i64 0) (.int .i64 0) 141;rw[←hW2];have hz2:=z3i hW2;clear hW2;rw[hz1] at hb2 hz2;have hx:=hx1.trans hx2;have hb1':=hb1.ext hx2;have hB2:B≤W2.heap.size:=by omega
 obtain⟨c0,c1,c2,c3⟩:=hb1'.later4;have HB:=fun e:Later W2=>y1k hB2 e.ext.size
 go_wp2_with fail
 have G1:=Hd (fun e:Later W2=>q1g _ q1y z1c z7m B yp (fun y hy w cs h1 h2=>j1k B y w cs h1 h2 (by have:=hmem1.o y hy;omega)) _ _ (HP.o.extRB (hx.trans e.ext) hB) (HB _) (by omega) z1z);have G2:=Hd (fun e:Later W2=>j4u _ j6e z3k q7g B yo (fun y hy w cs h1 h2=>k6v B y w cs h1 h2 (by have:=hmem2.o y hy;omega)) _ _ (HO.o.extRP (hx.trans e.ext) hB) (HB _) (by omega) z9y);have G3:=Hd (fun e:Later W2=>q1f _ q1x z0i z4q B yi (fun y hy w cs h1 h2=>k6x B y w cs h1 h2 (by have:=hmem3.o y hy;omega)) _ _ (HI.o.extRI (hx.trans e.ext) hB) (HB _) (by omega) z1i);refine z0n (W:=W2) (by kernel_rfl) rfl (by kernel_rfl) (by kernel_rfl) (y1g _) ?_;dsimp only[List.dropLast]
 repeat (go_big_quiet_step (first
  |(go_at_call 126;exact y2a (G1.o _))
  |(go_at_call 128;exact y2a (G2.o _))
  |(go_at_call 130;exact y2a (G3.o _))
  |(go_at_call 125;refine y2a (z2d _ _ _ _ _ ?_ ?_)<;>omega)
  |(go_at_call 132;refine y2a (q5z _ _ _ ?_ ?_)<;>omega)))
 refine wpQuiet_nil ?_;intro e;unfold z2f;obtain⟨s1,hs1⟩:∃n,n=1+(z0e z1c yp+z0e z3k yo+z0e z0i yi):=⟨_,rfl⟩;obtain⟨d1,hd1⟩:∃n,n=1+max (z0j z7m yp) (max (z0j q7g yo) (z0j z4q yi)):=⟨_,rfl⟩;rw[←hs1,←hd1];have H1:=Hd hs1;have H2:=Hd hd1;clear hs1 hd1;have hx9:=hx.trans e.ext;have hb9:=hb2.ext e.ext;have hbf:=hb9.store2 (.int .i64 s1) (.int .i64 d1);obtain⟨r0,r1⟩:=hb9.get2;obtain⟨g0,g1⟩:=hb9.free2;go_wp2_with fail
 refine bodyPost_ret (v:=z2f s1 d1) ?_ rfl ⟨by congr 2<;>(have:=H1.o;have:=H2.o;omega),(hx9.setCell (by simp) _).setCell (by simp) _⟩;obtain⟨q0,q1⟩:=hbf.get2;simp[results,results88,go_sem,q0,q1,z2f]
end Go.Proofs.YtlfmlodanoolhaaGreatDoor
