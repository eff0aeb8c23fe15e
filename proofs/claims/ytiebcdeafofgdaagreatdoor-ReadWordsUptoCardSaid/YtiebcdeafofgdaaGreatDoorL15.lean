/-
  Parts of the proof: Rlitk Ras Rop Rprim Lok. By an AI agent.
-/
import Derived.Test.YtiebcdeafofgdaaGreatDoorL14
import Derived.Test.YtiebcdeafofgdaaGreatDoorL01
import Derived.Test.YtiebcdeafofgdaaGreatDoorL13
import Derived.BigQuiet
import Derived.Defers
import Derived.Recover
import Derived.IntWalk
set_option maxRecDepth 100000
set_option maxHeartbeats 8000000
namespace Go.Proofs.YtiebcdeafofgdaaGreatDoor
section
open Go.RowKit Go.Lib Go.Proofs
theorem rK (part:R Nd) (en:ByteArray) (c:Cx):∀ (g:Nat) (acc:List Nd) (s:St) (l:List Nd) (s':St),ci part en g acc c s=.ok l s'→l.length≤acc.length+g
 | 0,_,_,_,_,h=>by simp [ci] at h
 | g+1,acc,s,l,s',h=>by
  simp only [ci] at h;split at h
  ·injection h with J _;subst J;omega
  ·cases D:part c s with
   | out=>rw [D] at h;cases h
   | fail p=>rw [D] at h;cases h
   | ok n s1=>
    rw [D] at h;simp only [mI.bind_ok] at h;split at h
    ·injection h with J _;subst J;simp
    ·cases I:mv (⟨#[44]⟩:BA) c s1 with
     | out=>rw [I] at h;cases h
     | fail p=>rw [I] at h;cases h
     | ok u s2=>rw [I] at h;have:=rK part en c g (acc++[n]) s2 l s' h;simp at this;omega
theorem tN {part:R Nd} {en:ByteArray} {c:Cx} {g:Nat} {s:St} {l:List Nd} {s':St} (h:dY (ci part en g []) c s=.ok l s'):l.length≤g:=by
 unfold dY at h;cases D:ci part en g [] c { s with head:=false } with
 | out=>rw [D] at h;cases h
 | fail p=>rw [D] at h;cases h
 | ok l1 s1=>rw [D] at h;simp only [mI.bind_ok] at h;injection h with I _;subst I;have:=rK part en c g [] _ _ _ D;simpa using this
theorem nU {X:Nat→Prop} {w:World} {size n:Nat} {A:Option Addr} {xs:List Value} (h:dk X w size A n xs) (hs:0<size):bB w w.heap.size size A n xs:=by refine ⟨h.1,fun D=>?_⟩;obtain ⟨b,off,rfl,_,I⟩:=h.2 D;(have J:0<xs.length:=by rw [h.1];exact Nat.mul_pos D hs);refine ⟨_,rfl,World.block_lt_of_cell? w _ (I 0 xs[0] (List.getElem?_eq_getElem J)),fun j u hu=>?_⟩;rw [nL];exact I j u hu
theorem iv {X:Nat→Prop} {w:World} : ∀ {l:List Nd} {xs:List Value},au X w l xs→∀ u∈xs,u.oneCell'=true
 | [],xs,h=>by unfold au at h;subst h;simp
 | n::l,xs,h=>by
  unfold au at h;obtain ⟨ys,zs,rfl,J,I⟩:=h;obtain ⟨A,cap,_,rfl,_⟩:=J.toV;intro u D;rcases List.mem_append.1 D with D | D
  ·exact pi n A cap u D
  ·exact iv I u D
theorem sw {w:World} {K B:Nat} {a b c d:Value} (hb:ar w K 24 #[a,b,c,d]) (hB:B≤K):w.ownsRow B 24 4 (.slice (some ⟨K,0,none⟩) 1 1) 1 [a,b,c,d]:=
 ⟨rfl,.inr ⟨K,1,#[a,b,c,d],rfl,hB,hb,Nat.le_refl _,by unfold maxLen;omega,rfl,rfl⟩⟩
theorem wi {X:Nat→Prop} {w:World} {B n:Nat} {v:Value} {l:List Nd} {xs:List Value} (h:w.ownsRow B 24 4 v n xs) (M:l.length=n) (U:∀ g,v.ownBlock=some g→X g) (I:au X w l xs):cy X w v l:=by
 subst M;rcases h.2 with ⟨rfl,q⟩ | ⟨g,cap,cur,rfl,hg,O,D,_,K,J⟩
 ·exact ⟨none,0,xs,by rw [q],by omega,⟨h.1,fun h=>by omega⟩,I⟩
 ·refine ⟨_,cap,xs,rfl,D,⟨h.1,fun _=>⟨g,0,rfl,U g rfl,fun j u hu=>?_⟩⟩,I⟩;(have N:j<l.length * 4:=by have:=(List.getElem?_eq_some_iff.1 hu).1;rw [h.1] at this;exact this);rw [Nat.zero_add];unfold World.cell?;rw [O];simp only [Option.isSome_none,Bool.false_eq_true,if_false];rw [←J,List.getElem?_take_of_lt N] at hu;rw [←hu];simp
theorem pu {w:World} {B n:Nat} {t:TypeId} {size:Nat} {v:Value} {xs:List Value} (h:w.ownsRow B t size v n xs):∃ A c,v=.slice A n c∧n≤c:=by
 rcases h.2 with ⟨rfl,I⟩ | ⟨g,cap,cur,rfl,_,_,D,_⟩
 ·exact ⟨none,0,by rw [I],by omega⟩
 ·exact ⟨_,cap,rfl,D⟩
theorem aC.grownNew {E:cw} {s:St} {w w1 w2:World} {K:Nat} (h:aC E s w w1) (D:w1.grownBy w2 (some K)) (J:w.heap.size≤K) (I:E.R<K):aC E s w w2:=
 ⟨h.rd.grown D (fun g e=>by injection e with e;omega),D.os.trans h.gr.os,D.tape.trans h.gr.tape,D.output.trans h.gr.output,Nat.le_trans h.gr.size D.size,fun k hk hne=>(D.block k (Nat.lt_of_lt_of_le hk h.gr.size) (fun e=>by injection e with e;omega)).trans (h.gr.block k hk hne)⟩
end
section
open Go.RowKit Go.Lib Go.Proofs
attribute [local go_sem ↓] Go.wp_at_zero Go.wp_at_succ
attribute [local go_sem] bC bD bE bF
theorem wl {fn:Func} {q r:Tmp} (J:fn.results = #[.cell q 24,.tmp r]) (tmps:Array Value) {w:World} {g:Nat} {a b c d v:Value} (M:tmps.getD q undef=.pointer (some ⟨g,0,none⟩)) (K:tmps.getD r undef=v) (hb:ar w g 24 #[a,b,c,d]) :
  (results fn tmps).run Tryz.prog w=.ok (.tuple #[.agg #[a,b,c,d],v]) w:=by obtain ⟨h,U,O,N,_,_,_,_⟩:=ac hb;unfold results;rw [J];(have I:tmps[q]?.getD undef=.pointer (some ⟨g,0,none⟩):=by simpa using M);(have D:tmps[r]?.getD undef=v:=by simpa using K);simp [I,D,go_sem,h,U,O,N]
end
section
open Go.RowKit Go.Lib Go.Proofs
attribute [local go_sem ↓] Go.wp_at_zero Go.wp_at_succ
attribute [local go_sem] bg bh bi bC bD bE bF
def FW (E:cw) (w:World) (r:mI (Nd × Bool)) (e:Ending) (w':World):Prop:=
 match r with
 | .ok x s=>(∃ v,e=.returned (.tuple #[v,.bool x.2])∧ai (fun b=>w.heap.size≤b) w' v x.1)∧aC E s w w'
 | .fail p=>e=aL p∧w.grownBy w' (some E.R)
 | .out=>False
def yu (E:cw):Prop:=∀ t∈E.c.toks,t.kind=4→∀ w,Ip E w→Calls Tryz.prog 79 #[.string t.text] w fun e w'=>(∃ v,e=.returned (.tuple #[.string (lj t.text),v]))∧Below w.heap.size w w'
theorem B7 {E:cw} {w wk:World} {res:mI (Nd × Bool)} {n:Nd} {bb:Bool} {s:St} {X:Nat→Prop} {a0 a1 a2 a3 z0 z1 z2 z3:Value} {g q rr:Nat} {fn:Func} {a:Act} (N:res=.ok (n,bb) s)
  (K:ai X wk (.agg #[a0,a1,a2,a3]) n) (O:aC E s w wk) (hb:ar wk g 24 #[z0,z1,z2,z3]) (U:w.heap.size≤g) (h:E.R<g) (J:∀ b,X b→w.heap.size≤b∧b≠g)
  (I:fn.results = #[.cell q 24,.tmp rr]) (M:a.tmps.getD q undef=.pointer (some ⟨g,0,none⟩)) (D:a.tmps.getD rr undef=.bool bb) (hd:a.defers=[]) :
  bodyPost Tryz.prog fn (FW E w res) .ret a (bJ wk g a0 a1 a2 a3):=by refine bodyPost_ret (wl I _ M D (bU hb a0 a1 a2 a3)) hd ?_;rw [N];exact ⟨⟨_,rfl,(K.kept (dm (fun b hb=>(J b hb).2) _ _ _ _)).mono fun b hb _=>(J b hb).1⟩,fb O U h _ _ _ _⟩
theorem EE {w:World} {T:Nat} {t:TypeId} {a b c:Value} (h:ar w T t #[a,b,c]):w.cell? ⟨T,0,none⟩=some a∧w.cell? ⟨T,1,none⟩=some b∧w.cell? ⟨T,2,none⟩=some c:=
 ⟨(h.cell 0).trans rfl,(h.cell 1).trans rfl,(h.cell 2).trans rfl⟩
theorem EF (E:cw) (i:Nat) (I:(aE E.c i).kind≠0):i<E.c.toks.length∧aE E.c i∈E.c.toks:=by
 rcases Nat.lt_or_ge i E.c.toks.length with D | D
 ·refine ⟨D,?_⟩;unfold aE;rw [List.getElem?_eq_getElem D];exact List.getElem_mem D
 ·rw [iR E.c i D] at I;exact absurd rfl I
theorem oF (E:cw) (gt:yu E) (w:World) (s:St) (h:aW E w s) (gp:iO E.c s≠.out) :
  Calls Tryz.prog 184 #[.pointer (some ⟨E.R,0,none⟩)] w (FW E w (iO E.c s)):=by
 generalize hres:iO E.c s=res at *;have g3:=hid gp;have u:=h.lt;have gz:=h.most;have g5:=h.le;have gj:=hid (EF E s.at_);have N:=hid (show (if (aE E.c s.at_).kind=1 then .ok (.mk 18 (aE E.c s.at_).text [] (aE E.c s.at_).pos,true) (ba { s with part := -1 })
  else if (aE E.c s.at_).kind=4 then .ok (.mk 16 (lj (aE E.c s.at_).text) [] (aE E.c s.at_).pos,false) (ba { s with part := -1 })
  else .out)=res from hres)
 clear hres gp;have gx:(s.part==(s.at_:Int))=decide (s.part=(s.at_:Int)):=Bool.beq_eq_decide_eq _ _;(go_enter Tryz.func184,Tryz.ntmps184);(go_wp2_with fail);refine (cr E s _ (h.alloc _)).mono ?_;unfold iA;rintro e w1 ⟨rfl,O⟩;have gs:=(((ct.refl h).alloc _).step O).moved;have gw:=(ar.new w 24 bZ).below O (by simp);(have g4:w.heap.size+1≤w1.heap.size:=by have:=O.size;simp at this;omega);clear O;generalize htk:aE E.c s.at_=tk at *;generalize decide (s.part=(s.at_:Int))=types at *;have gr:=ar.new w1 43 #[.int .i64 tk.kind,.string tk.text,.int .i64 tk.pos];have gv:=gw.alloc (.cells #[.int .i64 tk.kind,.string tk.text,.int .i64 tk.pos] 43);have gh:=gs.alloc (.cells #[.int .i64 tk.kind,.string tk.text,.int .i64 tk.pos] 43);(have gm:w1.heap.size+1≤(w1.alloc (.cells #[.int .i64 tk.kind,.string tk.text,.int .i64 tk.pos] 43)).heap.size:=by simp);(go_upto_region 2 with fail);generalize hTT:w1.heap.size=T at *;change Code.wp _ _ _ _ (w1.alloc (.cells #[.int .i64 tk.kind,.string tk.text,.int .i64 tk.pos] 43));generalize w1.alloc (.cells #[.int .i64 tk.kind,.string tk.text,.int .i64 tk.pos] 43)=w2 at *;(have g6:T≠w.heap.size:=by omega);(have gd:T≠E.R:=by omega);clear hTT gw gs;obtain ⟨-,c1,-,-,c4,cf⟩:=gh.rd.cells;have f4:=cf 4;(go_wp2_with fail);go_quiet (fail);have gq:=gr.drewN nq;have gu:=gv.drewN nq;have gg:=gh.drewN nq;have gl:T+1≤(w2.drewN nq).heap.size:=gm;clear c1 c4 cf f4 gr gv gh;generalize w2.drewN nq=w3 at *;obtain ⟨-,-,-,-,c4,cf⟩:=gg.rd.cells;have f4:=cf 4;have J:=gq.far (p:=⟨E.R,4,none⟩) gd (.int .i64 (-1));have j:=gu.far (p:=⟨E.R,4,none⟩) (by show w.heap.size≠E.R;omega) (.int .i64 (-1));have K:=gg.setPart (-1);(go_upto_region 4 with fail);(have gk:T+1≤(w3.setCell ⟨E.R,4,none⟩ (.int .i64 (-1))).heap.size:=by simpa using gl);generalize w3.setCell ⟨E.R,4,none⟩ (.int .i64 (-1))=w4 at *;generalize hq:({ s with part := -1 } : St)=q at *;(have gn:q.at_=s.at_:=by rw [←hq]);clear hq f4 cf c4 gq gu gg gl gm;obtain ⟨t0,t1,t2⟩:=EE J;obtain ⟨-,c1,-,-,-,cf⟩:=K.rd.cells;have f1:=cf 1;rw [gn] at c1;have g8:IntKind.i64.wrap ((s.at_:Int)+1)=(s.at_:Int)+1:=IntWalk.i64_in _ (by omega);(have ga:({ q with at_:=s.at_+1 } : St)=ba q:=by unfold ba;rw [gn]);by_cases h1:tk.kind=1
 ·have HF:=hid (show res=.ok (.mk 18 tk.text [] tk.pos,true) (ba q) by rw [←N.out,if_pos h1]);have k1:(tk.kind==1)=true:=beq_iff_eq.2 h1;have U:=J.far (p:=⟨E.R,1,none⟩) gd (.int .i64 ((s.at_:Int)+1));have gi:=j.far (p:=⟨E.R,1,none⟩) (by show w.heap.size≠E.R;omega) (.int .i64 ((s.at_:Int)+1));have D:=K.setAt (s.at_+1) (by have:=(gj.out (by omega)).1;omega);rw [show ((s.at_+1:Nat):Int)=(s.at_:Int)+1 from rfl,ga] at D;clear h1;(go_upto_region 6 with fail);(have gy:T+1≤(w4.setCell ⟨E.R,1,none⟩ (.int .i64 ((s.at_:Int)+1))).heap.size:=by simpa using gk);generalize w4.setCell ⟨E.R,1,none⟩ (.int .i64 ((s.at_:Int)+1))=w5 at *;clear t0 t1 t2 c1 cf f1 J j K;obtain ⟨t0,t1,t2⟩:=EE U;(go_wp2_with fail);refine (cc _ _ _ _ _ ⟨_,_,_,rfl⟩).mono ?_;rintro e w6 ⟨rfl,I⟩;have M:=gi.bl I;have ge:=D.step I;obtain ⟨d0,d1,d2,d3,e0,e1,e2,e3⟩:=ac M;(go_wp2_with fail);exact B7 (X:=fun _=>False) HF.out (ai.leaf 18 tk.text tk.pos) ge M (Nat.le_refl _) u (fun _ h=>h.elim) rfl (by rfl) (by rfl) rfl
 have k1:(tk.kind==1)=false:=beq_eq_false_iff_ne.2 h1;by_cases h4:tk.kind=4
 ·have HF:=hid (show res=.ok (.mk 16 (lj tk.text) [] tk.pos,false) (ba q) by rw [←N.out,if_neg h1,if_pos h4]);have HL:=hid (gt tk (gj.out (by omega)).2 h4);have k4:(tk.kind==4)=true:=beq_iff_eq.2 h4;have U:=J.far (p:=⟨E.R,1,none⟩) gd (.int .i64 ((s.at_:Int)+1));have gi:=j.far (p:=⟨E.R,1,none⟩) (by show w.heap.size≠E.R;omega) (.int .i64 ((s.at_:Int)+1));have D:=K.setAt (s.at_+1) (by have:=(gj.out (by omega)).1;omega);rw [show ((s.at_+1:Nat):Int)=(s.at_:Int)+1 from rfl,ga] at D;clear h4;(go_upto_region 9 with fail);(have gy:T+1≤(w4.setCell ⟨E.R,1,none⟩ (.int .i64 ((s.at_:Int)+1))).heap.size:=by simpa using gk);generalize w4.setCell ⟨E.R,1,none⟩ (.int .i64 ((s.at_:Int)+1))=w5 at *;clear t0 t1 t2 c1 cf f1 J j K;obtain ⟨t0,t1,t2⟩:=EE U;(go_wp2_with fail);refine (HL.out _ D.rd.old).mono ?_;rintro e w7 ⟨⟨v7,rfl⟩,gb⟩;have g0:=U.bl gb;have g2:=gi.bl gb;have g1:=D.step gb;clear t0 t1 t2;obtain ⟨t0,t1,t2⟩:=EE g0;(go_wp2_with fail);refine (cc _ _ _ _ _ ⟨_,_,_,rfl⟩).mono ?_;rintro e w6 ⟨rfl,I⟩;have M:=g2.bl I;have ge:=g1.step I;obtain ⟨d0,d1,d2,d3,e0,e1,e2,e3⟩:=ac M;(go_wp2_with fail);exact B7 (X:=fun _=>False) HF.out (ai.leaf 16 (lj tk.text) tk.pos) ge M (Nat.le_refl _) u (fun _ h=>h.elim) rfl (by rfl) (by rfl) rfl
 exact absurd (show res=.out by rw [←N.out,if_neg h1,if_neg h4]) g3.out
theorem bK.val {X:Nat→Prop} {w:World} {n:Nd} {A:Option Addr} {c:Nat} (h:bK X w n [.int .i64 n.kind,.string n.text,.slice A n.kids.length c,.int .i64 n.pos]):ai X w (.agg (nv n A c)) n:=by obtain ⟨O,N,D,I,M,K,J⟩:=h.toV;simp only [List.cons.injEq,and_true,true_and] at I;injection I with e1 _ e3;exact ⟨O,N,D,by rw [e1,e3],M,K,J⟩
theorem nV {E:cw} {s3:St} {w D U w9:World} {K P:Nat} {out:Nd} {l:List Nd} {A:Option Addr} {c:Nat} {A8:Option Addr} {c8:Nat} {ys:List Value} {b0 b1 b2 b3:Value} (kind:Int) (t:ByteArray)
  (ge:aC E s3 w D) (gn:E.R<w.heap.size) (gk:bK (fun b=>(w.heap.size≤b∧b≠w.heap.size+1∧b≠K)∧b≠P) D out [.int .i64 out.kind,.string out.text,.slice A out.kids.length c,.int .i64 out.pos])
  (gg:au (fun b=>(w.heap.size≤b∧b≠w.heap.size+1∧b≠K)∧b≠P) D l ys) (hP:K<P) (gs:P<D.heap.size) (gp:w.heap.size+2≤K)
  (N:U.ownsRow P 24 4 (.slice A8 (1+l.length) c8) (1+l.length) ([.int .i64 out.kind,.string out.text,.slice A out.kids.length c,.int .i64 out.pos]++ys)) (I:D.grownBy U (some P))
  (j:(Value.slice A8 (1+l.length) c8).ownBlock=some P∨(Value.slice A8 (1+l.length) c8).ownBlock=some D.heap.size)
  (J:Below U.heap.size U w9) (gh:ar w9 K 24 #[b0,b1,b2,b3]) (gl:ar D w.heap.size 52 #[.pointer (some ⟨E.R,0,none⟩)]) (gi:ar D (w.heap.size+1) 24 bZ) :
  ar (bJ w9 K (.int .i64 kind) (.string t) (.slice A8 (1+l.length) c8) (.int .i64 out.pos)) K 24 #[.int .i64 kind,.string t,.slice A8 (l.length+1) c8,.int .i64 out.pos] ∧
  bK (fun b=>w.heap.size≤b∧b≠w.heap.size+1∧b≠K) (bJ w9 K (.int .i64 kind) (.string t) (.slice A8 (1+l.length) c8) (.int .i64 out.pos)) (.mk kind t (out::l) out.pos) [.int .i64 kind,.string t,.slice A8 (out::l).length c8,.int .i64 out.pos] ∧
  ar (bJ w9 K (.int .i64 kind) (.string t) (.slice A8 (1+l.length) c8) (.int .i64 out.pos)) w.heap.size 52 #[.pointer (some ⟨E.R,0,none⟩)] ∧
  ar (bJ w9 K (.int .i64 kind) (.string t) (.slice A8 (1+l.length) c8) (.int .i64 out.pos)) (w.heap.size+1) 24 bZ ∧
  aC E s3 w (bJ w9 K (.int .i64 kind) (.string t) (.slice A8 (1+l.length) c8) (.int .i64 out.pos)):=by
 have gr:=I.size;have gq:=J.size;have u:=aD.of_grown (X:=fun b=>(w.heap.size≤b∧b≠w.heap.size+1∧b≠K)∧b≠P) I (fun g e hX=>by injection e with e;exact hX.2 e.symm);have gj:=((au.cons gk gg).keep (w':=U) u.block).mono (Y:=fun b=>w.heap.size≤b∧b≠w.heap.size+1∧b≠K) (fun b hb _=>hb.1);have gb:=wi (X:=fun b=>w.heap.size≤b∧b≠w.heap.size+1∧b≠K) (l:=out::l) N (by simp;omega) (fun g hg=>by
  rcases j with e | e <;> rw [hg] at e <;> injection e with e
  ·exact ⟨by omega,by omega,by omega⟩
  ·exact ⟨by omega,by omega,by omega⟩) gj
 have ga:=(gb.kept (aD.of_below (X:=fun b=>w.heap.size≤b∧b≠w.heap.size+1∧b≠K) J (fun b _ h=>h))).kept (dm (fun b hb=>hb.2.2) (.int .i64 kind) (.string t) (.slice A8 (1+l.length) c8) (.int .i64 out.pos));have hn:=ai.of_slice ga kind t out.pos;have gd:aC E s3 w w9:=(ge.grownNew I (by omega) (by omega)).step J;(have M:∀ {g:Nat} {ty:TypeId} {C:Array Value},g<K→ar D g ty C→ar (bJ w9 K (.int .i64 kind) (.string t) (.slice A8 (1+l.length) c8) (.int .i64 out.pos)) g ty C:=by intro g ty C hgK hb;have h9:=(hb.grown I).below J (by have:=hb.lt;omega);exact (((h9.far (p:=⟨K,0,none⟩) (by show g≠K;omega) _).far (p:=⟨K,1,none⟩) (by show g≠K;omega) _).far (p:=⟨K,2,none⟩) (by show g≠K;omega) _).far (p:=⟨K,3,none⟩) (by show g≠K;omega) _);refine ⟨?_,?_,M (by omega) gl,M (by omega) gi,fb gd (by omega) (by omega) _ _ _ _⟩
 ·have h:=bU gh (.int .i64 kind) (.string t) (.slice A8 (1+l.length) c8) (.int .i64 out.pos);generalize bJ w9 K (.int .i64 kind) (.string t) (.slice A8 (1+l.length) c8) (.int .i64 out.pos)=W at h ⊢;rw [Nat.add_comm l.length 1];exact h
 obtain ⟨A9,c9,q,O,h1,h2,h3⟩:=hn;injection O with O;have O:=congrArg Array.toList O;simp only [List.cons.injEq] at O;obtain ⟨-,-,gm,-,-⟩:=O;injection gm with e1 e2 e3;subst e1 e3;unfold bK;exact ⟨_,_,q,rfl,h1,h2,h3⟩
theorem tY (E:cw) (F:oM) (hF:te E F) (jd:yu E):ei E (iP F) 138:=by
 intro w s h hno;generalize hres:iP F E.c s=res at *;have g2:=hid (show (iO E.c s).bind (fun x s1=>bu F F.g x.1 x.2 E.c s1)=res from hres);have g0:=hid hno;have ha:=h.lt;clear hres hno;have jk:ar ((w.alloc (.cells #[.pointer (some ⟨E.R,0,none⟩)] 52)).alloc (.cells bZ 24)) w.heap.size 52 #[.pointer (some ⟨E.R,0,none⟩)]:=(ar.new w _ _).alloc _;have jq:ar ((w.alloc (.cells #[.pointer (some ⟨E.R,0,none⟩)] 52)).alloc (.cells bZ 24)) (w.heap.size+1) 24 bZ:=ar.new_at (by simp) _ _;have hj:=((aC.refl h).alloc (.cells #[.pointer (some ⟨E.R,0,none⟩)] 52)).alloc (.cells bZ 24);(have j2:((w.alloc (.cells #[.pointer (some ⟨E.R,0,none⟩)] 52)).alloc (.cells bZ 24)).heap.size=w.heap.size+2:=by simp);(go_enter Tryz.func138,Tryz.ntmps138);(go_upto_region 1 with fail);change Code.wp _ _ _ _ ((w.alloc (.cells #[.pointer (some ⟨E.R,0,none⟩)] 52)).alloc (.cells bZ 24));generalize (w.alloc (.cells #[.pointer (some ⟨E.R,0,none⟩)] 52)).alloc (.cells bZ 24)=w0 at *;have b0:=bc jk;(go_wp2_with fail);cases hP:iO E.c s with
 | out=>exact absurd g2.out.symm (by rw [hP];exact g0.out)
 | fail q=>refine (oF E jd _ s hj.rd (by rw [hP];exact nofun)).mono ?_;rw [hP];rintro e w1 ⟨rfl,jw⟩;unfold aL;exact ⟨rfl,aK (by rw [←g2.out,hP];rfl) hj.gr jw⟩
 | ok x s1=>
  obtain ⟨n,bare⟩:=x;have HE:=hid (show bu F F.g n bare E.c s1=res by rw [←g2.out,hP];rfl);refine (oF E jd _ s hj.rd (by rw [hP];exact nofun)).mono ?_;rw [hP];rintro e w1 ⟨⟨v,rfl,hv⟩,g9⟩;obtain ⟨A1,c1,rfl,h8⟩:=hv.toC;have jt:=g9.gr.size;have js:=(jk.grown g9.gr).alloc (.cells (nv n A1 c1) 24);have jp:=(jq.grown g9.gr).alloc (.cells (nv n A1 c1) 24);have jn:=(hj.trans g9).alloc (.cells (nv n A1 c1) 24);have jo:=ar.new w1 24 (nv n A1 c1);have h8:=h8.mono (Y:=fun b=>w.heap.size≤b∧b≠w.heap.size+1∧b≠w1.heap.size) fun b hb hlt=>⟨by omega,by omega,by omega⟩;have jr:=(h8.keep (w':=w1.alloc (.cells (nv n A1 c1) 24)) fun b _ hlt=>Below.heap_alloc w1 _ b hlt);(go_upto_region 3 with fail);change Code.wp _ _ _ _ (w1.alloc (.cells (nv n A1 c1) 24));generalize hKK:w1.heap.size=K at *;generalize w1.alloc (.cells (nv n A1 c1) 24)=w2 at *;(have j3:K≠w.heap.size+1:=by omega);(have hm:K≠E.R:=by omega);(have ji:w.heap.size+2≤K:=by omega);clear h8 hv hP g2 jk jq hj g9 b0 jt hKK;go_loopg [4] F.g (fun gg u4 wr=>∃ (out:Nd) (bare:Bool) (U:St) (A:Option Addr) (c:Nat),u4=.bool bare∧ar wr K 24 (nv out A c) ∧
   bK (fun b=>w.heap.size≤b∧b≠w.heap.size+1∧b≠K) wr out [.int .i64 out.kind,.string out.text,.slice A out.kids.length c,.int .i64 out.pos]∧ar wr w.heap.size 52 #[.pointer (some ⟨E.R,0,none⟩)]∧ar wr (w.heap.size+1) 24 bZ ∧
   aC E U w wr∧bu F gg out bare E.c U=res)
  case atStart=>exact ⟨n,bare,s1,A1,c1,rfl,jo,jr,js,jp,jn,HE.out⟩
  case round=>
   obtain ⟨out,bare,U,A,c,rfl,hK,hC,hB,hG,hM,hr⟩:=hrel;(have ja:w.heap.size≠E.R:=by omega);cases gk with
   | zero=>exact absurd hr.symm (by rw [bu];exact g0.out)
   | succ g1=>
    have HR:=hid hr;clear hr HE jo jr js jp jn;have b0:=bc hB;(go_wp2_with fail);cases hA:cm E.c U (⟨#[40]⟩:BA) with
    | true=>
     refine (dH E U _ _ hM.rd hA).mono ?_;rintro e J ⟨rfl,j⟩;have O:=hK.grown j.gr (fun e=>hm (by injection e));have gj:=hC.keep (w':=J) (aD.of_grown (X:=fun b=>w.heap.size≤b∧b≠w.heap.size+1∧b≠K) j.gr (fun g e hX=>by injection e with e;subst e;have hX:w.heap.size≤E.R:=hX.1;omega)).block;have M:=hB.grown j.gr;have gi:=hG.grown j.gr;have N:=hM.trans j;have HE:=hid (show (dY (ci F.expr (⟨#[41]⟩:BA) F.g []) E.c (ba U)).bind (fun l s3=>bu F g1 (.mk 21 (⟨#[]⟩:BA) (out::l) out.pos) false E.c s3)=res by rw [←HR.out,bu];simp only [hA,if_true]);clear hK hC hB hG hM j b0 hA HR;have c0:=bc M;obtain ⟨x0,x1,x2,x3,jh,jg,jf,je⟩:=ac O;(go_wp2_with fail);(have gs:∀ a w,(callFunc 186 a).run Tryz.prog w=.ok (.enter 186 a) w:=fun a w=>by kernel_rfl);have hz:=hid gs;clear gs;let SS:World→Prop:=fun w'=>w'.cell? ⟨K,0,none⟩=some (.int .i64 out.kind)∧w'.cell? ⟨K,1,none⟩=some (.string out.text)∧w'.cell? ⟨K,2,none⟩=some (.slice A out.kids.length c)∧w'.cell? ⟨K,3,none⟩=some (.int .i64 out.pos)∧w'.cell? ⟨w.heap.size,0,none⟩=some (.pointer (some ⟨E.R,0,none⟩));have ssOf:∀ W,ar W K 24 (nv out A c)→ar W w.heap.size 52 #[.pointer (some ⟨E.R,0,none⟩)]→SS W:=fun W h1 h2=>⟨(ac h1).1,(ac h1).2.1,(ac h1).2.2.1,(ac h1).2.2.2.1,bc h2⟩;have SSO:=hid ssOf;have hy:SS J.drew:=ssOf _ O.drew M.drew;clear ssOf;have hl:=O.lt;cases hQ:dY (ci F.expr (⟨#[41]⟩:BA) F.g []) E.c (ba U) with
     | out=>exact absurd HE.out.symm (by rw [hQ];exact g0.out)
     | fail q=>
      have HF:=hid (show res=.fail q by rw [←HE.out,hQ];rfl);have HC:=hid (fun W (hr:aW E W (ba U)) (hc:W.cell? ⟨w.heap.size,0,none⟩=some (.pointer (some ⟨E.R,0,none⟩)))=>mi E 186 #[] #[.pointer (some ⟨w.heap.size,0,none⟩)] (ci F.expr (⟨#[41]⟩:BA) F.g []) (ba U) W hr hz.out (rI E F hF w.heap.size W hc ja) (by rw [hQ];exact nofun));rw [hQ] at HC;clear x0 x1 x2 x3 c0;refine lV 9 (S:=SS) (by kernel_rfl) hy ?_;intro D;(refine yF 0 [1,8,9] D ?_);(refine yF 1 [8,9] D ?_);(refine yF 2 [3,7,8,9] D ?_);(refine yF 4 [6,7,8,9] D ?_);(refine yF 5 [6,7,8,9] D ?_);(refine a7 (rs:=[3,6]) (by kernel_rfl) (by simp) ?_;refine (dE.cons rfl (fun Z hZ=>?_) (dE.cons rfl (fun Z hZ=>?_) dE.nil)))
      ·go_simp;(refine hZ.out _ _ (.inl ?_) (fun D=>?_))
       ·exact SSO.out _ (O.drew.alloc _) (M.drew.alloc _)
       (clear hZ Z;replace D:=D.resolve_right (by decide));(refine a7 (rs:=[6]) (by kernel_rfl) (by simp) ?_;refine (dE.cons rfl (fun Z hZ=>?_) dE.nil));go_simp;(go_at_call 185);refine (HC.out _ (N.drew.alloc _).rd (bc (M.drew.alloc _))).mono ?_;rintro e w7 ⟨rfl,he⟩;unfold aL;exact ⟨rfl,aK HF.out (N.drew.alloc _).gr he⟩
      ·go_simp;(go_at_call 185);refine (HC.out _ N.drew.rd (bc M.drew)).mono ?_;rintro e w7 ⟨rfl,he⟩;unfold aL;exact ⟨rfl,aK HF.out N.drew.gr he⟩
     | ok l s3=>
      have jb:=hid (show bu F g1 (.mk 21 (⟨#[]⟩:BA) (out::l) out.pos) false E.c s3=res by rw [←HE.out,hQ];rfl);have HC:=hid (fun W (hr:aW E W (ba U)) (hc:W.cell? ⟨w.heap.size,0,none⟩=some (.pointer (some ⟨E.R,0,none⟩)))=>mi E 186 #[] #[.pointer (some ⟨w.heap.size,0,none⟩)] (ci F.expr (⟨#[41]⟩:BA) F.g []) (ba U) W hr hz.out (rI E F hF w.heap.size W hc ja) (by rw [hQ];exact nofun));rw [hQ] at HC;have ju:=tN hQ;have jv:=hF.g;obtain ⟨i0,hi,h4,h3,h0⟩:=info_parts ph;clear x0 x1 x2 x3 c0 HE hQ;refine lV 9 (S:=SS) (by kernel_rfl) hy ?_;intro D;(refine yF 0 [1,8,9] D ?_);(refine yF 1 [8,9] D ?_);(refine yF 2 [3,7,8,9] D ?_);(refine yF 4 [6,7,8,9] D ?_);(refine yF 5 [6,7,8,9] D ?_);(refine a7 (rs:=[3,6]) (by kernel_rfl) (by simp) ?_;refine (dE.cons rfl (fun Z hZ=>?_) (dE.cons rfl (fun Z hZ=>?_) dE.nil)))
      ·go_simp;(refine hZ.out _ _ (.inl ?_) (fun D=>?_))
       ·exact SSO.out _ (O.drew.alloc _) (M.drew.alloc _)
       (clear hZ Z;replace D:=D.resolve_right (by decide));(refine a7 (rs:=[6]) (by kernel_rfl) (by simp) ?_;refine (dE.cons rfl (fun Z hZ=>?_) dE.nil));go_simp;(go_at_call 185);refine (HC.out _ (N.drew.alloc _).rd (bc (M.drew.alloc _))).mono ?_;rintro e w7 ⟨⟨v7,rfl,g8⟩,I⟩;obtain ⟨A7,c7,ys,rfl,jc,gp,ga⟩:=g8;have gv:=(O.drew.alloc (.cells (nv out A c) 24)).grown I.gr (fun e=>hm (by injection e));have ge:=(M.drew.alloc (.cells (nv out A c) 24)).grown I.gr;have ho:=(gi.drew.alloc (.cells (nv out A c) 24)).grown I.gr;have hg:=(ar.new J.drew 24 (nv out A c)).grown I.gr (fun e=>by injection e with e;have e:J.heap.size=E.R:=e;omega);have hh:=(N.drew.alloc (.cells (nv out A c) 24)).trans I;(have jz:J.heap.size+1≤w7.heap.size:=by have:=I.gr.size;simpa using this);have hq:=((gj.mono (Y:=fun b=>(w.heap.size≤b∧b≠w.heap.size+1∧b≠K)∧b≠J.heap.size) fun b hb hlt=>⟨hb,by omega⟩).keep (w:=J) (w':=J.drew.alloc (.cells (nv out A c) 24)) fun b _ hlt=>Below.heap_alloc J.drew _ b hlt).keep (w':=w7) (aD.of_grown (X:=fun b=>(w.heap.size≤b∧b≠w.heap.size+1∧b≠K)∧b≠J.heap.size) I.gr (fun g e hX=>by injection e with e;subst e;have hX:w.heap.size≤E.R:=hX.1.1;omega)).block;(have hk:=ga.mono (Y:=fun b=>(w.heap.size≤b∧b≠w.heap.size+1∧b≠K)∧b≠J.heap.size) fun b hb _=>by (have hb:J.heap.size+1≤b:=by simpa using hb);exact ⟨⟨by omega,by omega,by omega⟩,by omega⟩);have gn:=nU gp (by omega);have gq:=iv ga;have hn:K<J.heap.size:=hl;(have hf:J.heap.size<w7.heap.size:=by omega);clear I ga gp;(refine hZ.out _ _ (.inl ?_) (fun D=>?_))
       ·exact SSO.out _ gv ge
       (clear hZ Z;replace D:=D.resolve_right (by decide));(refine a7 (rs:=[7]) (by kernel_rfl) (by simp) ?_;refine (dE.cons rfl (fun Z hZ=>?_) dE.nil));refine fH _ (by rfl) (.tmp 20) (.tmp 23) 22 (by rfl) J.heap.size 24 i0 _ 4 56 Tryz.underlying22 hi h4 h3 h0 (by rfl) (by omega) (.slice (some ⟨J.heap.size,0,none⟩) 1 1) 1 [.int .i64 out.kind,.string out.text,.slice A out.kids.length c,.int .i64 out.pos] (by rfl) (sw hg (Nat.le_refl _)) w7.heap.size A7 l.length c7 ys (by rfl) gn gq (by unfold maxLen;omega) (by omega) (by omega) ?_;intro v8 w8 hown8 hg8 hat8;obtain ⟨A8,c8,rfl,jm⟩:=pu hown8;have gu:=gv.grown hg8 (fun e=>by have e:some K=some J.heap.size:=e;injection e with e;omega);have gx:=ge.grown hg8 (fun e=>by have e:some w.heap.size=some J.heap.size:=e;injection e with e;omega);(refine hZ.out _ _ (.inl ?_) (fun D=>?_))
       ·exact SSO.out _ gu gx
       (clear hZ Z;replace D:=D.resolve_right (by decide));(refine a7 (rs:=[8]) (by kernel_rfl) (by simp) ?_;refine (dE.cons rfl (fun Z hZ=>?_) dE.nil));go_simp;(go_at_call 64);refine (cc _ _ _ _ _ ⟨_,_,_,rfl⟩).mono ?_;rintro e w9 ⟨rfl,gb⟩;have gd:=gu.bl gb;have hu:=gx.bl gb;(refine hZ.out _ _ (.inl ?_) (fun D=>?_))
       ·exact SSO.out _ gd hu
       (clear hZ Z;replace D:=D.resolve_right (by decide));(refine a7 (rs:=[9]) (by kernel_rfl) (by simp) ?_;refine (dE.cons rfl (fun Z hZ=>?_) dE.nil));obtain ⟨x0,x1,x2,x3,jh,jg,jf,je⟩:=ac gd;go_simp;(refine hZ.out _ _ (.inr rfl) (fun _=>?_);clear hZ Z;refine lU (by kernel_rfl) ?_ _);have hN:=nV 21 (⟨#[]⟩:BA) hh ha hq hk hn hf ji hown8 hg8 hat8 gb gd ge ho;(go_wp2_with fail);go_roundg g1
       case measure=>omega
       case rel=>exact ⟨.mk 21 (⟨#[]⟩:BA) (out::l) out.pos,false,s3,A8,c8,rfl,hN.1,hN.2.1,hN.2.2.1,hN.2.2.2.1,hN.2.2.2.2,jb.out⟩
      ·go_simp;(go_at_call 185);refine (HC.out _ N.drew.rd (bc M.drew)).mono ?_;rintro e w6 ⟨⟨v7,rfl,g8⟩,I⟩;obtain ⟨A7,c7,ys,rfl,jc,gp,ga⟩:=g8;have gw:=O.drew.grown I.gr (fun e=>hm (by injection e));have gz:=M.drew.grown I.gr;have gh:=gi.drew.grown I.gr;have gt:=N.drew.trans I;have j0:J.heap.size≤w6.heap.size:=I.gr.size;have gy:=gj.keep (w:=J) (w':=w6) (aD.of_grown (w:=J.drew) (X:=fun b=>w.heap.size≤b∧b≠w.heap.size+1∧b≠K) I.gr (fun g e hX=>by injection e with e;subst e;have hX:w.heap.size≤E.R:=hX.1;omega)).block;have gq:=iv ga;(refine hZ.out _ _ (.inl ?_) (fun D=>?_))
       ·exact SSO.out _ gw gz
       (clear hZ Z;replace D:=D.resolve_right (by decide));(refine a7 (rs:=[3]) (by kernel_rfl) (by simp) ?_;refine (dE.cons rfl (fun Z hZ=>?_) dE.nil));go_simp;have gv:=gw.alloc (.cells (nv out A c) 24);have ge:=gz.alloc (.cells (nv out A c) 24);have ho:=gh.alloc (.cells (nv out A c) 24);have hh:=gt.alloc (.cells (nv out A c) 24);have hg:=ar.new w6 24 (nv out A c);have hq:=(gy.mono (Y:=fun b=>(w.heap.size≤b∧b≠w.heap.size+1∧b≠K)∧b≠w6.heap.size) fun b hb hlt=>⟨hb,by omega⟩).keep (w':=w6.alloc (.cells (nv out A c) 24)) fun b _ hlt=>Below.heap_alloc w6 _ b hlt;have hk:=(ga.mono (Y:=fun b=>(w.heap.size≤b∧b≠w.heap.size+1∧b≠K)∧b≠w6.heap.size) fun b hb hlt=>by have hb:J.heap.size≤b:=hb;exact ⟨⟨by omega,by omega,by omega⟩,by omega⟩).keep (w':=w6.alloc (.cells (nv out A c) 24)) fun b _ hlt=>Below.heap_alloc w6 _ b hlt;have gn:=nU (gp.keep (w':=w6.alloc (.cells (nv out A c) 24)) fun b _ hlt=>Below.heap_alloc w6 _ b hlt) (by omega);(have hn:K<w6.heap.size:=by omega);(have hf:w6.heap.size<(w6.alloc (.cells (nv out A c) 24)).heap.size:=by simp);(refine hZ.out _ _ (.inl ?_) (fun D=>?_))
       ·exact SSO.out _ gv ge
       (clear hZ Z;replace D:=D.resolve_right (by decide));clear I ga gp gw gz gh gt gy;generalize w6.heap.size=P at *;generalize w6.alloc (.cells (nv out A c) 24)=w7 at *;(refine a7 (rs:=[7]) (by kernel_rfl) (by simp) ?_;refine (dE.cons rfl (fun Z hZ=>?_) dE.nil));refine fH _ (by rfl) (.tmp 20) (.tmp 23) 22 (by rfl) P 24 i0 _ 4 56 Tryz.underlying22 hi h4 h3 h0 (by rfl) (by omega) (.slice (some ⟨P,0,none⟩) 1 1) 1 [.int .i64 out.kind,.string out.text,.slice A out.kids.length c,.int .i64 out.pos] (by rfl) (sw hg (Nat.le_refl _)) w7.heap.size A7 l.length c7 ys (by rfl) gn gq (by unfold maxLen;omega) (by omega) (by omega) ?_;intro v8 w8 hown8 hg8 hat8;obtain ⟨A8,c8,rfl,jm⟩:=pu hown8;have gu:=gv.grown hg8 (fun e=>by have e:some K=some P:=e;injection e with e;omega);have gx:=ge.grown hg8 (fun e=>by have e:some w.heap.size=some P:=e;injection e with e;omega);(refine hZ.out _ _ (.inl ?_) (fun D=>?_))
       ·exact SSO.out _ gu gx
       (clear hZ Z;replace D:=D.resolve_right (by decide));(refine a7 (rs:=[8]) (by kernel_rfl) (by simp) ?_;refine (dE.cons rfl (fun Z hZ=>?_) dE.nil));go_simp;(go_at_call 64);refine (cc _ _ _ _ _ ⟨_,_,_,rfl⟩).mono ?_;rintro e w9 ⟨rfl,gb⟩;have gd:=gu.bl gb;have hu:=gx.bl gb;(refine hZ.out _ _ (.inl ?_) (fun D=>?_))
       ·exact SSO.out _ gd hu
       (clear hZ Z;replace D:=D.resolve_right (by decide));(refine a7 (rs:=[9]) (by kernel_rfl) (by simp) ?_;refine (dE.cons rfl (fun Z hZ=>?_) dE.nil));obtain ⟨x0,x1,x2,x3,jh,jg,jf,je⟩:=ac gd;go_simp;(refine hZ.out _ _ (.inr rfl) (fun _=>?_);clear hZ Z;refine lU (by kernel_rfl) ?_ _);have hN:=nV 21 (⟨#[]⟩:BA) hh ha hq hk hn hf ji hown8 hg8 hat8 gb gd ge ho;(go_wp2_with fail);go_roundg g1
       case measure=>omega
       case rel=>exact ⟨.mk 21 (⟨#[]⟩:BA) (out::l) out.pos,false,s3,A8,c8,rfl,hN.1,hN.2.1,hN.2.2.1,hN.2.2.2.1,hN.2.2.2.2,jb.out⟩
    | false=>
     refine (dB E U _ _ hM.rd hA).mono ?_;rintro e J ⟨rfl,g5⟩;have O:=hK.bl g5.bel;have gj:=hC.keep (w':=J) fun b _ hlt=>g5.bel.block b hlt;have M:=hB.bl g5.bel;have gi:=hG.bl g5.bel;have N:=hM.trans g5.moved;clear hK hC hB hG hM g5 b0;have b0:=bc M;(go_wp2_with fail);cases hS:cm E.c U (⟨#[91]⟩:BA) with
     | true=>
      refine (dH E U _ _ N.rd hS).mono ?_;rintro e w3' ⟨rfl,j⟩;have g7:=O.grown j.gr (fun e=>hm (by injection e));have ht:=gj.keep (w':=w3') (aD.of_grown (X:=fun b=>w.heap.size≤b∧b≠w.heap.size+1∧b≠K) j.gr (fun g e hX=>by injection e with e;subst e;have hX:w.heap.size≤E.R:=hX.1;omega)).block;have gm:=M.grown j.gr;have hp:=gi.grown j.gr;have gl:=N.trans j;have HE:=hid (show (dY (ci (cZ F) (⟨#[93]⟩:BA) F.g []) E.c (ba U)).bind (fun l s3=>if l.length=0 then .out else bu F g1 (.mk 22 (⟨#[]⟩:BA) (out::l) out.pos) bare E.c s3)=res by rw [←HR.out,bu];simp only [hA,hS,Bool.false_eq_true,if_false,if_true]);clear O gj M gi N j b0 hA hS HR;have b0:=bc gm;(have gs:∀ a w,(callFunc 187 a).run Tryz.prog w=.ok (.enter 187 a) w:=fun a w=>by kernel_rfl);have hz:=hid gs;clear gs;(go_wp2_with fail);cases hQ:dY (ci (cZ F) (⟨#[93]⟩:BA) F.g []) E.c (ba U) with
      | out=>exact absurd HE.out.symm (by rw [hQ];exact g0.out)
      | fail q=>have HF:=hid (show res=.fail q by rw [←HE.out,hQ];rfl);refine (mi E 187 #[] #[.pointer (some ⟨w.heap.size,0,none⟩)] (ci (cZ F) (⟨#[93]⟩:BA) F.g []) (ba U) _ gl.rd hz.out (rJ E F hF w.heap.size _ (bc gm) ja) (by rw [hQ];exact nofun)).mono ?_;rw [hQ];rintro e w7 ⟨rfl,he⟩;unfold aL;exact ⟨rfl,aK HF.out gl.gr he⟩
      | ok l s3=>
       have jl:=hid (show (if l.length=0 then .out else bu F g1 (.mk 22 (⟨#[]⟩:BA) (out::l) out.pos) bare E.c s3)=res by rw [←HE.out,hQ];rfl);have ju:=tN hQ;have jv:=hF.g;refine (mi E 187 #[] #[.pointer (some ⟨w.heap.size,0,none⟩)] (ci (cZ F) (⟨#[93]⟩:BA) F.g []) (ba U) _ gl.rd hz.out (rJ E F hF w.heap.size _ (bc gm) ja) (by rw [hQ];exact nofun)).mono ?_;rw [hQ];rintro e J ⟨⟨v7,rfl,g8⟩,I⟩;obtain ⟨A7,c7,ys,rfl,jc,gp,ga⟩:=g8;have O:=g7.grown I.gr (fun e=>hm (by injection e));have gj:=ht.keep (w':=J) (aD.of_grown (X:=fun b=>w.heap.size≤b∧b≠w.heap.size+1∧b≠K) I.gr (fun g e hX=>by injection e with e;subst e;have hX:w.heap.size≤E.R:=hX.1;omega)).block;have M:=gm.grown I.gr;have gi:=hp.grown I.gr;have N:=gl.trans I;have j1:=I.gr.size;have jy:=g7.lt;clear g7 ht gm hp gl I b0 HE;have b0:=bc M;by_cases jj:l.length=0
       ·exact absurd (show res=.out by rw [←jl.out,if_pos jj]) g0.out
       ·have jb:=hid (show bu F g1 (.mk 22 (⟨#[]⟩:BA) (out::l) out.pos) bare E.c s3=res by rw [←jl.out,if_neg jj]);(have jx:((l.length:Int)==0)=false:=by rw [beq_eq_false_iff_ne];omega);clear jl jj hQ;obtain ⟨i0,hi,h4,h3,h0⟩:=info_parts ph;(go_wp2_with fail);let SS:World→Prop:=fun w'=>w'.cell? ⟨K,0,none⟩=some (.int .i64 out.kind)∧w'.cell? ⟨K,1,none⟩=some (.string out.text)∧w'.cell? ⟨K,2,none⟩=some (.slice A out.kids.length c)∧w'.cell? ⟨K,3,none⟩=some (.int .i64 out.pos)∧w'.cell? ⟨w.heap.size,0,none⟩=some (.pointer (some ⟨E.R,0,none⟩));have ssOf:∀ W,ar W K 24 (nv out A c)→ar W w.heap.size 52 #[.pointer (some ⟨E.R,0,none⟩)]→SS W:=fun W h1 h2=>⟨(ac h1).1,(ac h1).2.1,(ac h1).2.2.1,(ac h1).2.2.2.1,bc h2⟩;have SSO:=hid ssOf;have hy:SS J.drew:=ssOf _ O.drew M.drew;clear ssOf;have hl:=O.lt;refine lV 7 (S:=SS) (by kernel_rfl) hy ?_;intro D;(refine yF 0 [1,6,7] D ?_);(refine yF 1 [6,7] D ?_);(refine yF 2 [3,5,6,7] D ?_);(refine yF 4 [5,6,7] D ?_);(refine a7 (rs:=[3]) (by kernel_rfl) (by simp) ?_;refine (dE.cons rfl (fun Z hZ=>?_) dE.nil));go_simp;have gv:=(O.alloc (.cells (nv out A c) 24)).drew;have ge:=(M.alloc (.cells (nv out A c) 24)).drew;have ho:=(gi.alloc (.cells (nv out A c) 24)).drew;have hh:=(N.alloc (.cells (nv out A c) 24)).drew;have hg:=(ar.new J 24 (nv out A c)).drew;have hq:=(gj.mono (Y:=fun b=>(w.heap.size≤b∧b≠w.heap.size+1∧b≠K)∧b≠J.heap.size) fun b hb hlt=>⟨hb,by omega⟩).keep (w:=J) (w':=(J.alloc (.cells (nv out A c) 24)).drew) fun b _ hlt=>Below.heap_alloc J _ b hlt;have hk:=(ga.mono (Y:=fun b=>(w.heap.size≤b∧b≠w.heap.size+1∧b≠K)∧b≠J.heap.size) fun b hb hlt=>⟨⟨by omega,by omega,by omega⟩,by omega⟩).keep (w:=J) (w':=(J.alloc (.cells (nv out A c) 24)).drew) fun b _ hlt=>Below.heap_alloc J _ b hlt;have gn:=nU (gp.keep (w:=J) (w':=(J.alloc (.cells (nv out A c) 24)).drew) fun b _ hlt=>Below.heap_alloc J _ b hlt) (by omega);have gq:=iv ga;have hn:K<J.heap.size:=hl;(have hf:J.heap.size<((J.alloc (.cells (nv out A c) 24)).drew).heap.size:=by simp);(refine hZ.out _ _ (.inl ?_) (fun D=>?_))
        ·exact SSO.out _ gv ge
        (clear hZ Z;replace D:=D.resolve_right (by decide));clear ga gp gj gi N O M b0 hy;generalize (J.alloc (.cells (nv out A c) 24)).drew=w7 at *;(refine a7 (rs:=[5]) (by kernel_rfl) (by simp) ?_;refine (dE.cons rfl (fun Z hZ=>?_) dE.nil));refine fH _ (by rfl) (.tmp 47) (.tmp 48) 22 (by rfl) J.heap.size 24 i0 _ 4 56 Tryz.underlying22 hi h4 h3 h0 (by rfl) (by omega) (.slice (some ⟨J.heap.size,0,none⟩) 1 1) 1 [.int .i64 out.kind,.string out.text,.slice A out.kids.length c,.int .i64 out.pos] (by rfl) (sw hg (Nat.le_refl _)) w7.heap.size A7 l.length c7 ys (by rfl) gn gq (by unfold maxLen;omega) (by omega) (by omega) ?_;intro v8 w8 hown8 hg8 hat8;obtain ⟨A8,c8,rfl,jm⟩:=pu hown8;have gu:=gv.grown hg8 (fun e=>by have e:some K=some J.heap.size:=e;injection e with e;omega);have gx:=ge.grown hg8 (fun e=>by have e:some w.heap.size=some J.heap.size:=e;injection e with e;omega);(refine hZ.out _ _ (.inl ?_) (fun D=>?_))
        ·exact SSO.out _ gu gx
        (clear hZ Z;replace D:=D.resolve_right (by decide));(refine a7 (rs:=[6]) (by kernel_rfl) (by simp) ?_;refine (dE.cons rfl (fun Z hZ=>?_) dE.nil));go_simp;(go_at_call 64);refine (cc _ _ _ _ _ ⟨_,_,_,rfl⟩).mono ?_;rintro e w9 ⟨rfl,gb⟩;have gd:=gu.bl gb;have hu:=gx.bl gb;(refine hZ.out _ _ (.inl ?_) (fun D=>?_))
        ·exact SSO.out _ gd hu
        (clear hZ Z;replace D:=D.resolve_right (by decide));(refine a7 (rs:=[7]) (by kernel_rfl) (by simp) ?_;refine (dE.cons rfl (fun Z hZ=>?_) dE.nil));obtain ⟨x0,x1,x2,x3,jh,jg,jf,je⟩:=ac gd;go_simp;(refine hZ.out _ _ (.inr rfl) (fun _=>?_);clear hZ Z;refine lU (by kernel_rfl) ?_ _);have hN:=nV 22 (⟨#[]⟩:BA) hh ha hq hk hn hf ji hown8 hg8 hat8 gb gd ge ho;(go_wp2_with fail);go_roundg g1
        case measure=>omega
        case rel=>exact ⟨.mk 22 (⟨#[]⟩:BA) (out::l) out.pos,bare,s3,A8,c8,rfl,hN.1,hN.2.1,hN.2.2.1,hN.2.2.2.1,hN.2.2.2.2,jb.out⟩
     | false=>
      refine (dB E U _ _ N.rd hS).mono ?_;rintro e w4 ⟨rfl,g4⟩;have g7:=O.bl g4.bel;have ht:=gj.keep (w':=w4) fun b _ hlt=>g4.bel.block b hlt;have gm:=M.bl g4.bel;have hp:=gi.bl g4.bel;have gl:=N.trans g4.moved;clear O gj M gi N g4 b0;have b0:=bc gm;(go_wp2_with fail);cases hD:cm E.c U (⟨#[46]⟩:BA) with
      | true=>exact absurd (show res=.out by rw [←HR.out,bu];simp only [hA,hS,hD,Bool.false_eq_true,if_false,if_true]) g0.out
      | false=>
       refine (dB E U _ _ gl.rd hD).mono ?_;rintro e w5 ⟨rfl,g3⟩;have h5:=g7.bl g3.bel;have h7:=ht.keep (w':=w5) fun b _ hlt=>g3.bel.block b hlt;have hw:=gm.bl g3.bel;have h6:=hp.bl g3.bel;have g6:=gl.trans g3.moved;clear g7 ht gm hp gl g3 b0;have b0:=bc hw;(go_wp2_with fail);cases hI:cm E.c U (⟨#[123]⟩:BA) with
       | false=>have HF:=hid (show res=.ok out U by rw [←HR.out,bu];simp [hA,hS,hD,hI]);refine (da E U (⟨#[123]⟩:BA) _ g6.rd).mono ?_;rw [hI];rintro e w6 ⟨rfl,u⟩;have gw:=h5.bl u;have gy:=h7.keep (w':=w6) fun b _ hlt=>u.block b hlt;have gz:=hw.bl u;have gh:=h6.bl u;have gt:=g6.step u;clear h5 h7 hw h6 g6 u b0;have b0:=bc gz;obtain ⟨x0,x1,x2,x3,-,-,-,-⟩:=ac gw;obtain ⟨d0,d1,d2,d3,e0,e1,e2,e3⟩:=ac gh;(go_wp2_with fail);refine a6 HF.out (bK.val gy) gt gh (Nat.le_succ _) (by omega) ?_ rfl (by rfl) rfl;intro b hb;exact ⟨hb.1,hb.2.1⟩
       | true=>
        refine (da E U (⟨#[123]⟩:BA) _ g6.rd).mono ?_;rw [hI];rintro e w6 ⟨rfl,u⟩;have gw:=h5.bl u;have gy:=h7.keep (w':=w6) fun b _ hlt=>u.block b hlt;have gz:=hw.bl u;have gh:=h6.bl u;have gt:=g6.step u;clear h5 h7 hw h6 g6 u b0;have b0:=bc gz;obtain ⟨-,-,-,c3,-,-⟩:=gt.rd.cells;cases bare with
        | false=>have HF:=hid (show res=.ok out U by rw [←HR.out,bu];simp [hA,hS,hD,hI]);obtain ⟨x0,x1,x2,x3,-,-,-,-⟩:=ac gw;obtain ⟨d0,d1,d2,d3,e0,e1,e2,e3⟩:=ac gh;(go_wp2_with fail);refine a6 HF.out (bK.val gy) gt gh (Nat.le_succ _) (by omega) ?_ rfl (by rfl) rfl;intro b hb;exact ⟨hb.1,hb.2.1⟩
        | true=>
         cases hH:U.head with
         | true=>have HF:=hid (show res=.ok out U by rw [←HR.out,bu];simp [hA,hS,hD,hI,hH]);rw [hH] at c3;obtain ⟨x0,x1,x2,x3,-,-,-,-⟩:=ac gw;obtain ⟨d0,d1,d2,d3,e0,e1,e2,e3⟩:=ac gh;(go_wp2_with fail);refine a6 HF.out (bK.val gy) gt gh (Nat.le_succ _) (by omega) ?_ rfl (by rfl) rfl;intro b hb;exact ⟨hb.1,hb.2.1⟩
         | false=>exact absurd (show res=.out by rw [←HR.out,bu];simp [hA,hS,hD,hI,hH]) g0.out
end
section
open Go.RowKit Go.Lib Go.Proofs
theorem AC (E:cw) (D:∀ t∈E.c.toks,t.text.size≤65536):yu E:=by
 intro t ht _ w hO;refine (pq t.text w (D t ht)).mono ?_;rintro e w' ⟨hB,h⟩;refine ⟨?_,hB⟩;rw [lj];cases I:fk t.text with
 | some x=>rw [I] at h;exact ⟨_,h⟩
 | none=>rw [I] at h;obtain ⟨n,_,rfl⟩:=h;exact ⟨_,rfl⟩
end
end Go.Proofs.YtiebcdeafofgdaaGreatDoor
