/-
  Parts of the proof: Rty2 Rparams Rfields Rhead Rkit2 Smem Rcons Tkit Tstr. By an AI agent.
-/
import Derived.Test.YtiebcdeafofgdaaGreatDoorL02
import Derived.Test.YtiebcdeafofgdaaGreatDoorL01
import Derived.Test.YtiebcdeafofgdaaGreatDoorL00
import Derived.Deep.RegionLaw
import Derived.Laws.RangeAny
import Derived.Lib.RuneCount
set_option maxRecDepth 100000
set_option maxHeartbeats 8000000
namespace Go.Proofs.YtiebcdeafofgdaaGreatDoor
section
open Go.RowKit Go.Lib Go.Proofs
attribute [local go_sem ↓] Go.wp_at_zero Go.wp_at_succ
attribute [local go_sem] bg bh bi bC bD bE bF
theorem El (E:cw):ei E uN 131:=by
 intro w s h hno;generalize hres:uN E.c s=res at *;have I:=hid hres;have ge:=hid hno;have gg:=h.lt;clear hres hno;(go_enter Tryz.func131,Tryz.ntmps131);(go_wp2_with fail);refine (cr E s _ (h.alloc _)).mono ?_;unfold iA;rintro e w1 ⟨rfl,gi⟩;have gh:=((ct.refl h).alloc _).step gi;have gp:=(ar.new w 24 bZ).below gi (by simp);have U:=gp.lt;clear gi;(go_wp2_with fail);cases hA:cm E.c s (⟨#[40]⟩:BA) with
 | true=>exact absurd (show res=.out by rw [←I.out,uN,if_pos hA]) ge.out
 | false=>
  refine (dB E s _ w1 gh.rd hA).mono ?_;rintro e w2 ⟨rfl,K⟩;have gn:=gp.below K.bel U;replace K:=gh.step K.bel;have O:=gn.lt;clear gh gp U;(go_wp2_with fail);cases hB:cm E.c s (⟨#[91]⟩:BA) with
  | true=>exact absurd (show res=.out by rw [←I.out,uN,if_neg (by rw [hA];decide),if_pos hB]) ge.out
  | false=>
   refine (dB E s _ w2 K.rd hB).mono ?_;rintro e w3 ⟨rfl,J⟩;have gm:=gn.below J.bel O;replace J:=K.step J.bel;have N:=gm.lt;clear K gn O;(go_wp2_with fail);cases hK:cm E.c s (⟨#[102,117,110,99]⟩:BA) with
   | true=>exact absurd (show res=.out by rw [←I.out,uN,if_neg (by rw [hA];decide),if_neg (by rw [hB];decide),if_pos hK]) ge.out
   | false=>
    refine (dB E s _ w3 J.rd hK).mono ?_;rintro e w4 ⟨rfl,D⟩;have gl:=gm.below D.bel N;replace D:=J.step D.bel;have gw:=gl.lt;have HE:=hid (show (fw E.c s).bind (fun x s1=>if cm E.c s1 (⟨#[91]⟩:BA) && !fa E.c s1 then .out else .ok (.mk 10 x [] (bz E.c s)) s1)=res by rw [←I.out,uN];simp only [hA,hB,hK,Bool.false_eq_true,if_false]);clear J gm N hA hB hK I;(go_wp2_with fail);by_cases hN:(aE E.c s.at_).kind=1
    case neg=>refine (oR E s w4 D.rd hN).mono ?_;rintro e w5 ⟨rfl,gx⟩;unfold aL;exact ⟨rfl,aK (by rw [←HE.out,fw,if_neg hN];rfl) D.moved.gr (aP _ gx)⟩
    have q:=hid (show (if cm E.c (ba s) (⟨#[91]⟩:BA) && !fa E.c (ba s) then .out else .ok (.mk 10 (aE E.c s.at_).text [] (bz E.c s)) (ba s))=res by rw [←HE.out,fw,if_pos hN];rfl);refine (nd E s w4 D.rd hN).mono ?_;rintro e w5 ⟨rfl,u⟩;have gv:=gl.grown u.gr;have gq:=D.moved.trans u;have g5:=u.gr.size;clear HE hN u D gl;generalize (aE E.c s.at_).text=tx at *;(go_wp2_with fail);refine (cc _ _ _ _ _ ⟨_,_,_,rfl⟩).mono ?_;rintro e w6 ⟨rfl,ga⟩;have g1:=gv.below ga (by omega);have gz:=gq.step ga;have g4:=ga.size;clear ga gv gq;(go_wp2_with fail);have gs:=ar.new w6 24 #[.int .i64 10,.string tx,.slice none 0 0,.int .i64 (bz E.c s)];have gu:=g1.alloc (.cells #[.int .i64 10,.string tx,.slice none 0 0,.int .i64 (bz E.c s)] 24);have gj:=gz.alloc (.cells #[.int .i64 10,.string tx,.slice none 0 0,.int .i64 (bz E.c s)] 24);refine (da E (ba s) _ _ gj.rd).mono ?_;rintro e w8 ⟨rfl,j⟩;have gk:=gs.below j (by simp);have gd:=gu.below j (by simp;omega);have gb:=gj.step j;(have g3:w6.heap.size+1≤w8.heap.size:=by have:=j.size;simp at this;omega);clear gs gu gj j;cases hI:cm E.c (ba s) (⟨#[91]⟩:BA) with
    | false=>have HF:=hid (show res=.ok (.mk 10 tx [] (bz E.c s)) (ba s) by rw [←q.out];simp [hI]);obtain ⟨x0,x1,x2,x3,_,_,_,_⟩:=ac gk;obtain ⟨d0,d1,d2,d3,e0,e1,e2,e3⟩:=ac gd;clear q;(go_wp2_with fail);refine a6 (X:=fun _=>False) HF.out (ai.leaf _ _ _) gb gd (Nat.le_refl _) gg ?_ rfl (by rfl) rfl;exact fun _ h=>h.elim
    | true=>
     (go_wp2_with fail);refine (rD E (ba s) _ gb.rd).mono ?_;rintro e w9 ⟨rfl,M⟩;have g0:=gk.below M.bel (by omega);have gt:=gd.below M.bel (by omega);have gy:=gb.trans M.moved;have g2:=M.bel.size;clear gk gd gb M;cases hJ:fa E.c (ba s) with
     | true=>have HF:=hid (show res=.ok (.mk 10 tx [] (bz E.c s)) (ba s) by rw [←q.out];simp [hI,hJ]);obtain ⟨x0,x1,x2,x3,_,_,_,_⟩:=ac g0;obtain ⟨d0,d1,d2,d3,e0,e1,e2,e3⟩:=ac gt;clear q;(go_wp2_with fail);refine a6 (X:=fun _=>False) HF.out (ai.leaf _ _ _) gy gt (Nat.le_refl _) gg ?_ rfl (by rfl) rfl;exact fun _ h=>h.elim
     | false=>exact absurd (show res=.out by rw [←q.out];simp [hI,hJ]) ge.out
theorem oE (E:cw):ei E fP 86:=by
 intro w s h hno;generalize hres:fP E.c s=res at *;have D:=hid hres;have gv:=hid hno;have gw:=h.lt;clear hres hno;(go_enter Tryz.func86,Tryz.ntmps86);(go_wp2_with fail);have gr:ar ((w.alloc (.cells #[.pointer (some ⟨E.R,0,none⟩)] 52)).alloc (.cells bZ 24)) w.heap.size 52 #[.pointer (some ⟨E.R,0,none⟩)]:=(ar.new w _ _).alloc _;(have gn:ar ((w.alloc (.cells #[.pointer (some ⟨E.R,0,none⟩)] 52)).alloc (.cells bZ 24)) (w.heap.size+1) 24 bZ:=by have:=ar.new (w.alloc (.cells #[.pointer (some ⟨E.R,0,none⟩)] 52)) 24 bZ;simpa using this);refine (cr E s _ ((h.alloc _).alloc _)).mono ?_;unfold iA;rintro e w1 ⟨rfl,N⟩;have gh:=(((ct.refl h).alloc _).alloc _).step N;have ge:=gn.below N (by simp);have gq:=gr.below N (by simp;omega);have u:=ge.lt;clear N gn gr;(go_wp2_with fail);refine (cc _ _ _ _ _ ⟨_,_,_,rfl⟩).mono ?_;rintro e I ⟨rfl,M⟩;have gi:=gh.moved.step M;have gm:=ge.below M u;have j:=gq.below M (by omega);have gz:=M.size;have b2:=j.cell 0;simp at b2;have ga:=j.lt;have gs:=Nat.ne_of_lt ga;clear M ge gq gh;(go_wp2_with fail);have gj:=ar.new I 24 #[.int .i64 6,.string (⟨#[]⟩:BA),.slice none 0 0,.int .i64 (bz E.c s)];have gl:=gm.alloc (.cells #[.int .i64 6,.string (⟨#[]⟩:BA),.slice none 0 0,.int .i64 (bz E.c s)] 24);have gp:=j.alloc (.cells #[.int .i64 6,.string (⟨#[]⟩:BA),.slice none 0 0,.int .i64 (bz E.c s)] 24);have gb:=gi.alloc (.cells #[.int .i64 6,.string (⟨#[]⟩:BA),.slice none 0 0,.int .i64 (bz E.c s)] 24);refine (da E s _ _ gb.rd).mono ?_;rintro e w4 ⟨rfl,K⟩;(have gy:I.heap.size+1≤w4.heap.size:=by have:=K.size;simp at this;omega);have gd:=gj.below K (by simp);have U:=gl.below K (by simp;omega);have gg:=gp.below K (by simp;omega);have O:=gb.step K;have b4:=gg.cell 0;simp at b4;clear gj gl gp gb K gm j gi b2;cases hI:cm E.c s (⟨#[91]⟩:BA) with
 | false=>have HF:=hid (show res=.ok (.mk 6 (⟨#[]⟩:BA) [] 0) s by rw [←D.out,fP];simp [hI]);obtain ⟨x0,x1,x2,x3,y0,y1,y2,y3⟩:=ac gd;obtain ⟨d0,d1,d2,d3,e0,e1,e2,e3⟩:=ac U;(have q:I.heap.size≠w.heap.size+1:=by omega);clear D;(go_wp2_with fail);refine a6 (X:=fun _=>False) HF.out (ai.leaf _ _ _) (O.own (p:=⟨I.heap.size,3,none⟩) (by show w.heap.size≤I.heap.size;omega) (by show E.R<I.heap.size;omega) _) (U.far (p:=⟨I.heap.size,3,none⟩) (by show w.heap.size+1≠I.heap.size;omega) _) (by omega) (by omega) ?_ rfl (by rfl) rfl;exact fun _ h=>h.elim
 | true=>
  (go_wp2_with fail);refine (rD E s _ O.rd).mono ?_;rintro e w5 ⟨rfl,J⟩;have gu:=gd.below J.bel (by omega);have gk:=U.below J.bel (by omega);have g0:=gg.below J.bel (by omega);have gt:=O.trans J.moved;have gx:=J.bel.size;clear gd U gg O J b4;cases hJ:fa E.c s with
  | true=>have HF:=hid (show res=.ok (.mk 6 (⟨#[]⟩:BA) [] 0) s by rw [←D.out,fP];simp [hI,hJ]);obtain ⟨x0,x1,x2,x3,y0,y1,y2,y3⟩:=ac gu;obtain ⟨d0,d1,d2,d3,e0,e1,e2,e3⟩:=ac gk;(have q:I.heap.size≠w.heap.size+1:=by omega);clear D;(go_wp2_with fail);refine a6 (X:=fun _=>False) HF.out (ai.leaf _ _ _) (gt.own (p:=⟨I.heap.size,3,none⟩) (by show w.heap.size≤I.heap.size;omega) (by show E.R<I.heap.size;omega) _) (gk.far (p:=⟨I.heap.size,3,none⟩) (by show w.heap.size+1≠I.heap.size;omega) _) (by omega) (by omega) ?_ rfl (by rfl) rfl;exact fun _ h=>h.elim
  | false=>exact absurd (show res=.out by rw [←D.out,fP];simp [hI,hJ]) gv.out
theorem ai.cells {X:Nat→Prop} {w:World} {k t a:Value} {A:Option Addr} {m c:Nat} {n:Nd} (h:ai X w (.agg #[k,t,.slice A m c,a]) n):bK X w n [.int .i64 n.kind,.string n.text,.slice A n.kids.length c,.int .i64 n.pos]:=by obtain ⟨I,c1,e,D⟩:=h.toC;injection e with e;injection e with e;simp only [List.cons.injEq,and_true] at e;obtain ⟨_,_,e,_⟩:=e;injection e with e1 _ e3;rw [e1,e3];exact D
theorem pt (E:cw) (F:oM) (hF:te E F):ei E (cZ F) 188:=by
 intro w s h hno;generalize D:cZ F E.c s=res at *;have J:=hid D;have U:=hid hno;have I:=h.lt;have K:aC E { s with part:=s.at_ } w ((w.setCell ⟨E.R,4,none⟩ (.int .i64 (s.at_:Int))).alloc (.cells bZ 24)):=((aC.refl h).setPart (s.at_:Int)).alloc _;have u:ar ((w.setCell ⟨E.R,4,none⟩ (.int .i64 (s.at_:Int))).alloc (.cells bZ 24)) w.heap.size 24 bZ:=ar.new_at (by simp [World.setCell]) _ _;(have gb:w.heap.size+1≤((w.setCell ⟨E.R,4,none⟩ (.int .i64 (s.at_:Int))).alloc (.cells bZ 24)).heap.size:=by simp [World.setCell]);obtain ⟨c0,c1,c2,c3,c4,cf⟩:=h.cells;have ga:=cf 4;have gd:=Nat.ne_of_lt I;clear D hno cf;have HE:=hid (show F.expr E.c { s with part:=s.at_ } = res from J.out);clear J;(go_enter Tryz.func188,Tryz.ntmps188);(go_wp2_with fail);refine (hF.expr _ { s with part:=s.at_ } K.rd (by rw [HE.out];exact U.out)).mono ?_;rw [HE.out];cases D:res with
 | out=>exact absurd D U.out
 | fail p=>rintro e w5 ⟨rfl,j⟩;unfold aL;exact ⟨rfl,aK (by first | rfl | exact D) K.gr j⟩
 | ok n5 s5=>rintro e w5 ⟨⟨v5,rfl,M⟩,N⟩;obtain ⟨A5,c5,rfl,ge⟩:=M.toC;have O:=u.grown N.gr;have q:=K.trans N;clear c0 c1 c2 c3 c4 ga;obtain ⟨d0,d1,d2,d3,e0,e1,e2,e3⟩:=ac O;(go_wp2_with fail);refine a6 (by first | rfl | exact D) M q O (Nat.le_refl _) I ?_ rfl (by rfl) rfl;intro b hb;constructor <;> omega
end
section
open Go.RowKit Go.Lib Go.Proofs
structure fx (B:Nat) (Z:Nat→Prop) (w:World) (v:Value) (l:List Nd):Prop where
 out:∃ xs,w.ownsRow B 24 4 v l.length xs∧au (fun b=>B≤b∧some b≠v.ownBlock∧¬ Z b) w l xs
 far:∀ g,v.ownBlock=some g→¬ Z g
section
variable {B:Nat} {Z:Nat→Prop} {w w':World} {v:Value} {l:List Nd}
theorem fx.nil (B:Nat) (Z:Nat→Prop) (w:World):fx B Z w (.slice none 0 0) []:=⟨⟨[],World.ownsRow_nil _ _ _ _,au.nil⟩,fun g h=>by simp [Value.ownBlock] at h⟩
theorem fx.keep (h:fx B Z w v l) (J:∀ b,B≤b→¬ Z b→b<w.heap.size→w'.heap[b]? = w.heap[b]?):fx B Z w' v l:=by
 obtain ⟨xs,M,N⟩:=h.out;refine ⟨⟨xs,⟨M.1,?_⟩,N.keep fun b hb D=>J b hb.1 hb.2.2 D⟩,h.far⟩;rcases M.2 with O | ⟨g,cap,cur,e,K,I,r⟩
 ·exact .inl O
 ·refine .inr ⟨g,cap,cur,e,K,?_,r⟩;have D:g<w.heap.size:=by
   rcases Nat.lt_or_ge g w.heap.size with D | hge
   ·exact D
   ·rw [Array.getElem?_eq_none hge] at I;cases I
  exact (J g K (h.far g (by rw [e];rfl)) D).trans I
theorem fx.kept (h:fx B Z w v l) (D:aD (fun b=>B≤b∧¬ Z b) w w'):fx B Z w' v l:=h.keep fun b J I h3=>D.block b ⟨J,I⟩ h3
theorem fx.grown {R:Nat} (h:fx B Z w v l) (D:w.grownBy w' (some R)) (I:R<B):fx B Z w' v l:=
 h.keep fun b hb _ hlt=>D.block b hlt (fun e=>by injection e;omega)
theorem fx.lt (h:fx B Z w v l):∀ g,v.ownBlock=some g→B≤g∧g<w.heap.size:=by obtain ⟨xs,D,_⟩:=h.out;exact fun g hg=>D.lt g hg
theorem fx.values (h:fx B Z w v l):cy (fun b=>B≤b∧¬ Z b) w v l:=by
 obtain ⟨xs,D,J⟩:=h.out;rcases D.2 with ⟨rfl,q⟩ | ⟨g,cap,cur,rfl,U,O,I,_,M,K⟩
 ·exact ⟨none,0,xs,by rw [q],by omega,⟨D.1,fun h=>by omega⟩,J.mono fun b hb _=>⟨hb.1,hb.2.2⟩⟩
 ·refine ⟨_,cap,xs,rfl,I,⟨D.1,fun _=>⟨g,0,rfl,⟨U,h.far g rfl⟩,fun j u hu=>?_⟩⟩,J.mono fun b hb _=>⟨hb.1,hb.2.2⟩⟩;(have N:j<l.length * 4:=by have:=(List.getElem?_eq_some_iff.1 hu).1;rw [D.1] at this;exact this);rw [Nat.zero_add];unfold World.cell?;rw [O];simp only [Option.isSome_none,Bool.false_eq_true,if_false];rw [←K,List.getElem?_take_of_lt N] at hu;rw [←hu];simp
theorem fx.form (h:fx B Z w v l):∃ A c,v=.slice A l.length c∧l.length≤c:=by obtain ⟨A,c,xs,e,D,_⟩:=h.values;exact ⟨A,c,e,D⟩
theorem fx.one {K S:Nat} {n:Nd} {a b c d:Value} {D:World} (hb:ar w K 24 #[a,b,c,d]) (J:B≤K) (u:D.heap.size=K) (U:bK (fun b=>S≤b) D n [a,b,c,d]) (h:B≤S)
  (O:∀ b,S≤b→b<D.heap.size→w.heap[b]? = D.heap[b]?) (M:∀ b,S≤b→b≤K→¬ Z b) (I:S≤K):fx B Z w (.slice (some ⟨K,0,none⟩) 1 1) [n]:=by
 refine ⟨⟨[a,b,c,d],⟨rfl,.inr ⟨K,1,#[a,b,c,d],rfl,J,hb,Nat.le_refl _,by unfold maxLen;omega,rfl,rfl⟩⟩,?_⟩,fun g hg=>?_⟩
 ·have q:=au.one (U.mono (Y:=fun b=>S≤b∧b<K) fun b hb hlt=>⟨hb,by omega⟩);have j:=q.keep (w':=w) fun b hb hlt=>O b hb.1 hlt;refine j.mono fun b hb _=>⟨by omega,fun e=>?_,M b hb.1 (by omega)⟩;(have N:b=K:=by simpa [Value.ownBlock] using e);omega
 ·(have N:K=g:=by simpa [Value.ownBlock] using hg);subst N;exact M K I (Nat.le_refl _)
end
structure yr (E:cw) (s:St) (B:Nat) (Z:Nat→Prop) (w w1 w2:World) (v':Value) (l:List Nd):Prop where
 own:fx B Z w2 v' l
 mov:aC E s w w2
 old:∀ b,b<w1.heap.size→(Z b∨b<B)→w2.heap[b]? = w1.heap[b]?
 le:w1.heap.size≤w2.heap.size
theorem BN {o:Oper} {a:Act} {K:Act→World→Prop} {Q:Exit→Act→World→Prop} (s x:Operand)
  (ho:o.op=.call { callee:=.builtin .append,args:=#[s,x],argTypes:=#[22,22] })
  (E:cw) (st:St) (B S:Nat) (Z:Nat→Prop) (w D:World) (u:Value) (l:List Nd) (n:Nd) (A:Option Addr) (cap:Nat) (hs:a.eval s=u) (hx:a.eval x=.slice (some ⟨D.heap.size,0,none⟩) 1 1)
  (hO:fx B Z D u l) (J:aC E st w D) (gj:w.heap.size≤B) (hR:E.R<B) (hB:B≤S) (hS:S≤D.heap.size) (hZ:∀ b,Z b→b<S) (hu:∀ g,u.ownBlock=some g→g<S) (hl:l.length≤1000000)
  (hV:bK (fun b=>S≤b) D n [.int .i64 n.kind,.string n.text,.slice A n.kids.length cap,.int .i64 n.pos])
  (h:∀ g c w2,yr E st B Z w D w2 (.slice (some ⟨g,0,none⟩) (l.length+1) c) (l++[n])→K (a.put o.dst (.slice (some ⟨g,0,none⟩) (l.length+1) c)) w2) :
  o.wp Tryz.prog a (D.alloc (.cells (nv n A cap) 24)) K Q:=by
 obtain ⟨i0,hi,ge,gd,gb⟩:=info_parts ph;obtain ⟨xs,U,gh⟩:=hO.out;refine wp_append_lies _ s x 22 ho B 24 i0 _ 4 56 Tryz.underlying22 hi ge gd gb rfl (by omega) u l.length xs hs (U.alloc _) ⟨D.heap.size,0,none⟩ 1 1 [.int .i64 n.kind,.string n.text,.slice A n.kids.length cap,.int .i64 n.pos] hx rfl
  (World.news_of_block (cs:=(nv n A cap)) (heap_alloc_new _ _)) (pi n A cap) (by omega) (by unfold maxLen;omega) (by omega) (by rw [World.size_alloc];omega) _ rfl ?_
 intro g c w2 hown1 O ga _;have gg:∀ g,u.ownBlock=some g→B≤g:=fun g O=>(hO.lt g O).1;have M:∀ b,b<D.heap.size→some b≠u.ownBlock→w2.heap[b]? = D.heap[b]? := fun b hb hne=>(O.block b (by rw [World.size_alloc];omega) hne).trans (Below.heap_alloc D _ b hb);have hold:∀ b,b<D.heap.size→(Z b∨b<B)→w2.heap[b]? = D.heap[b]? := fun b hb gi=>M b hb (fun e=>by
  rcases gi with h | h
  ·exact hO.far b e.symm h
  ·have:=gg b e.symm;omega)
 have j:D.heap.size≤w2.heap.size:=Nat.le_trans (by rw [World.size_alloc];omega) O.size;have q:¬ Z g:=by
  rcases ga with e | e
  ·exact hO.far g e
  ·rw [World.size_alloc] at e;intro hz;have:=hZ g hz;omega
 have N:au (fun b=>B≤b∧some b≠(Value.slice (some ⟨g,0,none⟩) (l.length+1) c).ownBlock∧¬ Z b) w2 (l++[n]) (xs++[.int .i64 n.kind,.string n.text,.slice A n.kids.length cap,.int .i64 n.pos]):=by
  have h1:au (fun b=>B≤b∧some b≠u.ownBlock∧¬ Z b∧b<D.heap.size) D (l++[n]) (xs++[.int .i64 n.kind,.string n.text,.slice A n.kids.length cap,.int .i64 n.pos]):=
   (gh.mono fun b hb I=>⟨hb.1,hb.2.1,hb.2.2,I⟩).app (au.one (hV.mono fun b hb I=>⟨Nat.le_trans hB hb,fun e=>by have:=hu b e.symm;omega,fun hz=>by have:=hZ b hz;omega,I⟩))
  have h2:=h1.keep (w':=w2) fun b hb I=>M b I hb.2.1;refine h2.mono fun b hb _=>⟨hb.1,fun e=>?_,hb.2.2.1⟩;(have e3:b=g:=by simpa [Value.ownBlock] using e);subst e3;rcases ga with e | e
  ·exact hb.2.1 e.symm
  ·rw [World.size_alloc] at e;have:=hb.2.2.2;omega
 refine h g c w2 ⟨⟨⟨_,by rw [List.length_append];exact hown1,N⟩,fun g' hg'=>?_⟩,⟨J.rd.keep fun b hb=>?_,?_⟩,hold,j⟩
 ·(have e3:g=g':=by simpa [Value.ownBlock] using hg');rw [←e3];exact q
 ·exact hold b (Nat.lt_of_le_of_lt hb J.rd.lt) (.inr (by omega))
 ·refine ⟨O.os.trans J.gr.os,O.tape.trans J.gr.tape,O.output.trans J.gr.output,Nat.le_trans J.gr.size j,fun k hk hne=>?_⟩;exact (hold k (Nat.lt_of_lt_of_le hk J.gr.size) (.inr (by omega))).trans (J.gr.block k hk hne)
theorem pk {ops:Array Oper} {o:Oper} {a:Act} {K:Act→World→Prop} {Q:Exit→Act→World→Prop} {D:Prop} (M:o.guard=none) (s x:Operand)
  (j:o.op=.call { callee:=.builtin .append,args:=#[s,x],argTypes:=#[22,22] })
  (E:cw) (st:St) (B S:Nat) (Z:Nat→Prop) (w I:World) (u:Value) (l:List Nd) (n:Nd) (A:Option Addr) (cap:Nat) (hs:a.eval s=u) (N:a.eval x=.slice (some ⟨I.heap.size,0,none⟩) 1 1)
  (hO:fx B Z I u l) (q:aC E st w I) (J:w.heap.size≤B) (hR:E.R<B) (hB:B≤S) (hS:S≤I.heap.size) (hZ:∀ b,Z b→b<S) (U:∀ g,u.ownBlock=some g→g<S) (hl:l.length≤1000000)
  (hV:bK (fun b=>S≤b) I n [.int .i64 n.kind,.string n.text,.slice A n.kids.length cap,.int .i64 n.pos])
  (h:∀ g c w2,yr E st B Z w I w2 (.slice (some ⟨g,0,none⟩) (l.length+1) c) (l++[n])→K (a.put o.dst (.slice (some ⟨g,0,none⟩) (l.length+1) c)) w2) :
  if Region.wanted o (yielded ops a.tmps)=true then Oper.wp Tryz.prog o a (I.alloc (.cells (nv n A cap) 24)) K Q else D:=by (have O:Region.wanted o (yielded ops a.tmps)=true:=by simp [Region.wanted,M]);rw [if_pos O];exact BN s x j E st B S Z w I u l n A cap hs N hO q J hR hB hS hZ U hl hV h
end
section
open Go.RowKit Go.Lib Go.Proofs
attribute [local go_sem ↓] Go.wp_at_zero Go.wp_at_succ
theorem Em:(Tryz.prog.info? 43).map (fun i=>(i.zero,i.size,i.bytes))=some (some (.agg #[.int .i64 0,.string ⟨#[]⟩,.int .i64 0]),3,32):=by kernel_rfl
theorem BO (l:List cK):∀ u∈l.flatMap nM,u.oneCell'=true:=by intro u hu;obtain ⟨x,_,D⟩:=List.mem_flatMap.1 hu;unfold nM at D;simp only [List.mem_cons,List.not_mem_nil,or_false] at D;rcases D with rfl | rfl | rfl <;> rfl
def fc (B:Nat) (w:World) (v:Value) (l:List cK):Prop:=w.ownsRow B 43 3 v l.length (l.flatMap nM)
section
variable {B:Nat} {w w':World} {v:Value} {l:List cK}
theorem fc.nil (B:Nat) (w:World):fc B w (.slice none 0 0) []:=World.ownsRow_nil _ _ _ _
theorem fc.keep (h:fc B w v l) (K:∀ b,B≤b→b<w.heap.size→w'.heap[b]? = w.heap[b]?):fc B w' v l:=by
 refine ⟨h.1,?_⟩;rcases h.2 with M | ⟨g,cap,cur,e,J,I,r⟩
 ·exact .inl M
 ·refine .inr ⟨g,cap,cur,e,J,?_,r⟩;have D:g<w.heap.size:=by
   rcases Nat.lt_or_ge g w.heap.size with D | hge
   ·exact D
   ·rw [Array.getElem?_eq_none hge] at I;cases I
  exact (K g J D).trans I
theorem fc.below (h:fc B w v l) (hb:Below w.heap.size w w'):fc B w' v l:=h.keep fun b _ hlt=>hb.block b hlt
theorem fc.lt (h:fc B w v l):∀ g,v.ownBlock=some g→B≤g∧g<w.heap.size:=fun g hg=>World.ownsRow.lt h g hg
theorem fc.form (h:fc B w v l):∃ A c,v=.slice A l.length c∧l.length≤c:=by
 rcases h.2 with ⟨rfl,I⟩ | ⟨g,cap,cur,rfl,_,_,D,_⟩
 ·exact ⟨none,0,by rw [I],by omega⟩
 ·exact ⟨_,cap,rfl,D⟩
end
structure tg (B:Nat) (w1 w2:World) (u v':Value) (l':List cK):Prop where
 own:fc B w2 v' l'
 bel:Below B w1 w2
 keep:∀ b,b<w1.heap.size→u.ownBlock≠some b→w2.heap[b]? = w1.heap[b]?
 at_:v'.ownBlock=u.ownBlock∨∃ g,v'.ownBlock=some g∧w1.heap.size≤g
theorem th {o:Oper} {a:Act} {K:Act→World→Prop} {Q:Exit→Act→World→Prop} (s x:Operand)
  (ho:o.op=.call { callee:=.builtin .append,args:=#[s,x],argTypes:=#[38,38] })
  (B:Nat) (D:World) (u:Value) (l:List cK) (t:cK) (hs:a.eval s=u) (S:Nat) (hx:a.eval x=.slice (some ⟨S,0,none⟩) 1 1) (hS:D.heap.size=S)
  (j:fc B D u l) (hB:B≤D.heap.size) (hl:l.length≤1000000)
  (h:∀ g c w2,tg B D w2 u (.slice (some ⟨g,0,none⟩) (l.length+1) c) (l++[t])→K (a.put o.dst (.slice (some ⟨g,0,none⟩) (l.length+1) c)) w2) :
  o.wp Tryz.prog a (D.alloc (.cells #[.int .i64 t.kind,.string t.text,.int .i64 t.pos] 43)) K Q:=by
 subst hS;obtain ⟨q,hi,N,M,J⟩:=info_parts Em;refine wp_append_lies _ s x 38 ho B 43 q _ 3 32 Tryz.underlying38 hi N M J rfl (by omega) u l.length _ hs (World.ownsRow.alloc j _) ⟨D.heap.size,0,none⟩ 1 1 [.int .i64 t.kind,.string t.text,.int .i64 t.pos] hx rfl
  (World.news_of_block (cs:=#[.int .i64 t.kind,.string t.text,.int .i64 t.pos]) (heap_alloc_new _ _)) (BO [t]) (by omega) (by unfold maxLen;omega) (by omega) (by rw [World.size_alloc];omega) _ rfl ?_
 intro g c w2 hown1 I O _;(have e:(l++[t]).flatMap nM=l.flatMap nM++[.int .i64 t.kind,.string t.text,.int .i64 t.pos]:=by rw [List.flatMap_append];rfl);have U:∀ b,b<D.heap.size→u.ownBlock≠some b→w2.heap[b]? = D.heap[b]? := fun b hb hu=>
  (I.block b (by rw [World.size_alloc];omega) (fun e=>hu e.symm)).trans (Below.heap_alloc D _ b hb)
 (have hb:Below B D w2:=by have h1:=(Below.refl B D).alloc hB (.cells #[.int .i64 t.kind,.string t.text,.int .i64 t.pos] 43);exact h1.trans ⟨I.os,I.tape,I.output,I.size,fun k U=>I.block k (by rw [World.size_alloc];omega) (fun e=>by have:=(j.lt k e.symm).1;omega)⟩);refine h g c w2 ⟨?_,hb,U,?_⟩
 ·unfold fc;rw [e,List.length_append];exact hown1
 ·rcases O with e | e
  ·exact .inl e.symm
  ·exact .inr ⟨g,rfl,by rw [e,World.size_alloc];omega⟩
theorem fZ {ops:Array Oper} {o:Oper} {a:Act} {K:Act→World→Prop} {Q:Exit→Act→World→Prop} {D:Prop} (I:o.guard=none) (s x:Operand)
  (N:o.op=.call { callee:=.builtin .append,args:=#[s,x],argTypes:=#[38,38] })
  (B:Nat) (w1:World) (u:Value) (l:List cK) (t:cK) (hs:a.eval s=u) (S:Nat) (J:a.eval x=.slice (some ⟨S,0,none⟩) 1 1) (U:w1.heap.size=S)
  (j:fc B w1 u l) (hB:B≤w1.heap.size) (O:l.length≤1000000)
  (h:∀ g c w2,tg B w1 w2 u (.slice (some ⟨g,0,none⟩) (l.length+1) c) (l++[t])→K (a.put o.dst (.slice (some ⟨g,0,none⟩) (l.length+1) c)) w2) :
  if Region.wanted o (yielded ops a.tmps)=true then Oper.wp Tryz.prog o a (w1.alloc (.cells #[.int .i64 t.kind,.string t.text,.int .i64 t.pos] 43)) K Q else D:=by (have M:Region.wanted o (yielded ops a.tmps)=true:=by simp [Region.wanted,I]);rw [if_pos M];exact th s x N B w1 u l t hs S J U j hB O h
theorem sm {ops:Array Oper} {rest:List Oper} {o:Oper} {a:Act} {Q:Exit→Act→World→Prop} (I:o.guard=none) (s x:Operand)
  (K:o.op=.call { callee:=.builtin .append,args:=#[s,x],argTypes:=#[38,38] })
  (B:Nat) (D:World) (u:Value) (l:List cK) (t:cK) (hs:a.eval s=u) (S:Nat) (J:a.eval x=.slice (some ⟨S,0,none⟩) 1 1) (N:D.heap.size=S)
  (O:fc B D u l) (hB:B≤D.heap.size) (M:l.length≤1000000)
  (h:∀ g c w2,tg B D w2 u (.slice (some ⟨g,0,none⟩) (l.length+1) c) (l++[t])→wpList Tryz.prog ops Q rest (a.put o.dst (.slice (some ⟨g,0,none⟩) (l.length+1) c)) w2) :
  wpList Tryz.prog ops Q (o::rest) a (D.alloc (.cells #[.int .i64 t.kind,.string t.text,.int .i64 t.pos] 43)):=
 wpList_plain I fun _ hK=>th s x K B D u l t hs S J N O hB M fun g c w2 h1=>hK _ _ (h g c w2 h1)
def mj (s:ByteArray) (i:Nat) (lv nv:Value):Array Value:=#[.string s,.int .i64 (i:Int),lv,nv]
structure uK (w:World) (X:Nat) (s:ByteArray) (i:Nat) (l:List cK) (lv nv:Value) (ns:List cK):Prop where
 blk:ar w X 67 (mj s i lv nv)
 toks:fc (X+1) w lv l
 notes:fc (X+1) w nv ns
 apart:∀ g,lv.ownBlock=some g→nv.ownBlock=some g→False
 nfew:ns.length≤i
structure eo (w:World) (X:Nat) (s:ByteArray) (i:Nat) (l:List cK):Prop where
 out:∃ lv nv ns,uK w X s i l lv nv ns
 le:i≤s.size
 most:s.size≤65536
 few:l.length≤65537
section
variable {w w':World} {X:Nat} {s:ByteArray} {i:Nat} {l:List cK} {lv nv:Value} {ns:List cK}
theorem uK.keep (h:uK w X s i l lv nv ns) (D:∀ b,X≤b→b<w.heap.size→w'.heap[b]? = w.heap[b]?):uK w' X s i l lv nv ns:=
 ⟨(D X (Nat.le_refl _) h.blk.lt).trans h.blk,h.toks.keep fun b hb hlt=>D b (by omega) hlt,h.notes.keep fun b hb hlt=>D b (by omega) hlt,h.apart,h.nfew⟩
theorem uK.below (h:uK w X s i l lv nv ns) (hb:Below w.heap.size w w'):uK w' X s i l lv nv ns:=h.keep fun b _ hlt=>hb.block b hlt
theorem uK.set (h:uK w X s i l lv nv ns) (j:Nat) (D:i≤j):uK (w.setCell ⟨X,1,none⟩ (.int .i64 (j:Int))) X s j l lv nv ns:=
 ⟨by simpa [mj] using h.blk.set_ 1 (.int .i64 (j:Int)),h.toks.keep fun b hb _=>Below.heap_setCell w ⟨X,1,none⟩ _ b (by show b≠X;omega),
  h.notes.keep fun b hb _=>Below.heap_setCell w ⟨X,1,none⟩ _ b (by show b≠X;omega),h.apart,Nat.le_trans h.nfew D⟩
theorem uK.row (h:uK w X s i l lv nv ns) {D:World} {lv':Value} {l':List cK} (J:tg (X+1) w D lv lv' l'):uK (D.setCell ⟨X,2,none⟩ lv') X s i l' lv' nv ns:=by
 have O:D.heap[X]? = w.heap[X]? := J.bel.block X (by omega);have hb:ar D X 67 (mj s i lv nv):=O.trans h.blk;have U:fc (X+1) D nv ns:=by
  refine ⟨h.notes.1,?_⟩;rcases h.notes.2 with j | ⟨g,cap,cur,e,N,K,r⟩
  ·exact .inl j
  ·refine .inr ⟨g,cap,cur,e,N,?_,r⟩;(have I:nv.ownBlock=some g:=by rw [e];rfl);exact (J.keep g (h.notes.lt g I).2 (fun q=>h.apart g q I)).trans K
 refine ⟨by simpa [mj] using hb.set_ 2 lv',J.own.keep fun b hb _=>Below.heap_setCell D ⟨X,2,none⟩ _ b (by show b≠X;omega),
  U.keep fun b hb _=>Below.heap_setCell D ⟨X,2,none⟩ _ b (by show b≠X;omega),fun g h1 h2=>?_,h.nfew⟩
 rcases J.at_ with e | ⟨g',e,M⟩
 ·exact h.apart g (e▸h1) h2
 ·rw [h1] at e;injection e with e;have:=(h.notes.lt g h2).2;omega
theorem uK.noteRow (h:uK w X s i l lv nv ns) {D:World} {nv':Value} {ns':List cK} (J:tg (X+1) w D nv nv' ns') (K:ns'.length≤i):uK (D.setCell ⟨X,3,none⟩ nv') X s i l lv nv' ns':=by
 have U:D.heap[X]? = w.heap[X]? := J.bel.block X (by omega);have hb:ar D X 67 (mj s i lv nv):=U.trans h.blk;have j:fc (X+1) D lv l:=by
  refine ⟨h.toks.1,?_⟩;rcases h.toks.2 with q | ⟨g,cap,cur,e,O,M,r⟩
  ·exact .inl q
  ·refine .inr ⟨g,cap,cur,e,O,?_,r⟩;(have I:lv.ownBlock=some g:=by rw [e];rfl);exact (J.keep g (h.toks.lt g I).2 (fun u=>h.apart g I u)).trans M
 refine ⟨by simpa [mj] using hb.set_ 3 nv',j.keep fun b hb _=>Below.heap_setCell D ⟨X,3,none⟩ _ b (by show b≠X;omega),
  J.own.keep fun b hb _=>Below.heap_setCell D ⟨X,3,none⟩ _ b (by show b≠X;omega),fun g h1 h2=>?_,K⟩
 rcases J.at_ with e | ⟨g',e,N⟩
 ·exact h.apart g h1 (e▸h2)
 ·rw [h2] at e;injection e with e;have:=(h.toks.lt g h1).2;omega
theorem eo.below (h:eo w X s i l) (hb:Below w.heap.size w w'):eo w' X s i l:=by obtain ⟨lv,nv,ns,D⟩:=h.out;exact ⟨⟨lv,nv,ns,D.below hb⟩,h.le,h.most,h.few⟩
theorem eo.keep (h:eo w X s i l) (D:∀ b,X≤b→w'.heap[b]? = w.heap[b]?):eo w' X s i l:=by obtain ⟨lv,nv,ns,I⟩:=h.out;exact ⟨⟨lv,nv,ns,I.keep fun b hb _=>D b hb⟩,h.le,h.most,h.few⟩
theorem eo.lt (h:eo w X s i l):X<w.heap.size:=by obtain ⟨lv,nv,ns,D⟩:=h.out;exact D.blk.lt
theorem eo.set (h:eo w X s i l) (j:Nat) (D:i≤j) (I:j≤s.size):eo (w.setCell ⟨X,1,none⟩ (.int .i64 (j:Int))) X s j l:=by obtain ⟨lv,nv,ns,J⟩:=h.out;exact ⟨⟨lv,nv,ns,J.set j D⟩,I,h.most,h.few⟩
end
def ne (X:Nat) (s:ByteArray) (w:World) (i:Nat) (l:List cK) (v:Value) (e:Ending) (w':World):Prop:=
 e=.returned v∧eo w' X s i l∧Below X w w'
end
section
open Go.RowKit Go.Lib Go.Proofs
attribute [local go_sem ↓] Go.wp_at_zero Go.wp_at_succ
attribute [local go_sem] bg bh bi bC bD bE bF
theorem cy.kid {X:Nat→Prop} {w:World} {A0:Option Addr} {n c:Nat} {l:List Nd} (h:cy X w (.slice A0 n c) l) (i:Nat) (O:i<l.length) :
  ∃ b off A cp,A0=some ⟨b,off,none⟩∧X b∧b<w.heap.size∧w.cell? ⟨b,off+i * 4,none⟩=some (.int .i64 l[i].kind)∧w.cell? ⟨b,off+i * 4+1,none⟩=some (.string l[i].text) ∧
    w.cell? ⟨b,off+i * 4+2,none⟩=some (.slice A l[i].kids.length cp)∧w.cell? ⟨b,off+i * 4+3,none⟩=some (.int .i64 l[i].pos) ∧
    ai X w (.agg #[.int .i64 l[i].kind,.string l[i].text,.slice A l[i].kids.length cp,.int .i64 l[i].pos]) l[i]:=by obtain ⟨A1,c1,xs,e,_,K,M⟩:=h;injection e with e1 e2 e3;subst e1 e2 e3;obtain ⟨b,off,eA,q,U⟩:=K.2 (by omega);obtain ⟨ys,u,I⟩:=M.get i O;obtain ⟨A,cp,zs,e,h1,h2,h3⟩:=u.toV;subst e;have g:=fun j (N:j<4) v (J:[Value.int .i64 l[i].kind,.string l[i].text,.slice A l[i].kids.length cp,.int .i64 l[i].pos][j]? = some v)=>U (i * 4+j) v (by rw [I j N];exact J);have D:=g 0 (by omega) _ rfl;exact ⟨b,off,A,cp,eA,q,World.block_lt_of_cell? w _ D,D,by simpa [Nat.add_assoc] using g 1 (by omega) _ rfl,by simpa [Nat.add_assoc] using g 2 (by omega) _ rfl,by simpa [Nat.add_assoc] using g 3 (by omega) _ rfl,A,cp,zs,rfl,h1,h2,h3⟩
theorem ai.kidsV {X:Nat→Prop} {w:World} {k t a:Value} {A:Option Addr} {m c:Nat} {n:Nd} (h:ai X w (.agg #[k,t,.slice A m c,a]) n):cy X w (.slice A m c) n.kids:=by obtain ⟨K,c1,xs,e,J,I,D⟩:=h;injection e with e;injection e with e;simp only [List.cons.injEq,and_true] at e;obtain ⟨_,_,e,_⟩:=e;exact ⟨K,c1,xs,e,J,I,D⟩
end
section
open Go.RowKit Go.Lib Go.Proofs
abbrev ax (w:World) (v:Value) (n:Nd):Prop:=ai (fun _=>True) w v n
theorem ai.wide {X:Nat→Prop} {w:World} {v:Value} {n:Nd} (h:ai X w v n):ax w v n:=h.mono fun _ _ _=>trivial
theorem ai.below {X:Nat→Prop} {w w':World} {v:Value} {n:Nd} (h:ai X w v n) (hb:Below w.heap.size w w'):ai X w' v n:=h.keep fun b _ hlt=>hb.block b hlt
theorem cy.below {X:Nat→Prop} {w w':World} {v:Value} {l:List Nd} (h:cy X w v l) (hb:Below w.heap.size w w'):cy X w' v l:=by obtain ⟨A,cap,xs,e,J,I,D⟩:=h;exact ⟨A,cap,xs,e,J,I.keep fun b _ hlt=>hb.block b hlt,D.keep fun b _ hlt=>hb.block b hlt⟩
abbrev fe (w:World) (v:Value) (l:List Nd):Prop:=cy (fun _=>True) w v l
theorem dU (a b:Int):(a==b)=decide (a=b):=by rw [Bool.eq_iff_iff];simp
def bR (w:World):Prop:=∃ m:Int,w.cell? ⟨2,0,none⟩=some (.int .i64 m)
theorem bR.below {w w':World} (h:bR w) (hb:Below w.heap.size w w'):bR w':=by obtain ⟨m,h⟩:=h;exact ⟨m,(hb.cell (World.block_lt_of_cell? w _ h)).trans h⟩
structure Fv where
 k:FuncId
 cap:Array Value
def Fv.val (f:Fv):Value:=.func (.func f.k) #[] f.cap
structure ln (d:Nat) (P:Nd→Bool) (f:Fv) (w0:World):Prop where
 enter:∀ a w,(callFunc f.k a).run Tryz.prog w=.ok (.enter f.k a) w
 out:∀ (w:World) (v:Value) (n:Nd),Below w0.heap.size w0 w→ax w v n→cq d n→Calls Tryz.prog f.k (#[v]++f.cap) w fun e w'=>e=.returned (.bool (P n))∧Below w.heap.size w w'
theorem ln.below {d:Nat} {P:Nd→Bool} {f:Fv} {w0 w1:World} (h:ln d P f w0) (hb:Below w0.heap.size w0 w1):ln d P f w1:=
 ⟨h.enter,fun w v n hw=>h.out w v n (am hb hw)⟩
structure ti (P:ByteArray→Bool) (f:Fv) (w0:World):Prop where
 enter:∀ a w,(callFunc f.k a).run Tryz.prog w=.ok (.enter f.k a) w
 out:∀ (w:World) (s:ByteArray),Below w0.heap.size w0 w→s.size≤1000000000→Calls Tryz.prog f.k (#[.string s]++f.cap) w fun e w'=>e=.returned (.bool (P s))∧Below w.heap.size w w'
theorem ti.below {P:ByteArray→Bool} {f:Fv} {w0 w1:World} (h:ti P f w0) (hb:Below w0.heap.size w0 w1):ti P f w1:=
 ⟨h.enter,fun w s hw=>h.out w s (am hb hw)⟩
def et (d:Nat) (P:Nd→Bool) (f:FuncId):Prop:=
 ∀ (w:World) (v:Value) (n:Nd),bR w→ax w v n→cq d n→Calls Tryz.prog f #[v] w fun e w'=>e=.returned (.bool (P n))∧Below w.heap.size w w'
theorem et.so {d:Nat} {P:Nd→Bool} {f:FuncId} (h:et d P f) (D:∀ a w,(callFunc f a).run Tryz.prog w=.ok (.enter f a) w) (w0:World) (I:bR w0):ln d P ⟨f,#[]⟩ w0:=
 ⟨D,fun w v n hb hv hd=>h w v n (I.below hb) hv hd⟩
theorem et.le {d d':Nat} {P:Nd→Bool} {f:FuncId} (h:et d P f) (hd:∀ n,cq d' n→cq d n):et d' P f:=fun w v n hT hv hn=>h w v n hT hv (hd n hn)
end
section
open Go.RowKit Go.Lib Go.Proofs
attribute [local go_sem ↓] Go.wp_at_zero Go.wp_at_succ
def aA (c:Int):Bool:=c==95||((decide (97≤c)&&decide (c≤122))||(decide (65≤c)&&decide (c≤90)))
def ao (c:Int):Bool:=decide (48≤c)&&decide (c≤57)
theorem cV (c:Int) (w:World):Calls Tryz.prog 97 #[.int .i32 c] w fun e w'=>e=.returned (.bool (aA c))∧w=w':=by unfold aA;cases M:(c==95) <;> cases K:decide (97≤c) <;> cases J:decide (c≤122) <;> cases I:decide (65≤c) <;> cases D:decide (c≤90);all_goals (go_enter Tryz.func97,Tryz.ntmps97);(go_wp2_with fail);go_ret;exact ⟨rfl,rfl⟩
theorem eD (c:Int) (w:World):Calls Tryz.prog 100 #[.int .i32 c] w fun e w'=>e=.returned (.bool (ao c))∧w=w':=by unfold ao;cases I:decide (48≤c) <;> cases D:decide (c≤57);all_goals (go_enter Tryz.func100,Tryz.ntmps100);(go_wp2_with fail);go_ret;exact ⟨rfl,rfl⟩
theorem aS {s x:ByteArray} (h:¬ s=x):(s.toList==x.data.toList)=false:=by rw [←ByteArray.toList_eq,cU];simpa using h
theorem tj (s:ByteArray) (w:World):Calls Tryz.prog 102 #[.string s] w fun e w'=>e=.returned (.int .i64 (aX s))∧w=w':=by
 by_cases N:s=(⟨#[98,114,101,97,107]⟩:BA)
 ·subst N;rw [show aX (⟨#[98,114,101,97,107]⟩:BA)=1 by decide +kernel];(go_enter Tryz.func102,Tryz.ntmps102);(go_wp2_with fail);go_ret;exact ⟨rfl,rfl⟩
 by_cases U:s=(⟨#[99,111,110,116,105,110,117,101]⟩:BA)
 ·subst U;rw [show aX (⟨#[99,111,110,116,105,110,117,101]⟩:BA)=1 by decide +kernel];clear N;(go_enter Tryz.func102,Tryz.ntmps102);(go_wp2_with fail);go_ret;exact ⟨rfl,rfl⟩
 by_cases h:s=(⟨#[101,108,115,101]⟩:BA)
 ·subst h;rw [show aX (⟨#[101,108,115,101]⟩:BA)=1 by decide +kernel];clear N U;(go_enter Tryz.func102,Tryz.ntmps102);(go_wp2_with fail);go_ret;exact ⟨rfl,rfl⟩
 by_cases j:s=(⟨#[102,111,114]⟩:BA)
 ·subst j;rw [show aX (⟨#[102,111,114]⟩:BA)=1 by decide +kernel];clear N U h;(go_enter Tryz.func102,Tryz.ntmps102);(go_wp2_with fail);go_ret;exact ⟨rfl,rfl⟩
 by_cases u:s=(⟨#[102,117,110,99]⟩:BA)
 ·subst u;rw [show aX (⟨#[102,117,110,99]⟩:BA)=1 by decide +kernel];clear N U h j;(go_enter Tryz.func102,Tryz.ntmps102);(go_wp2_with fail);go_ret;exact ⟨rfl,rfl⟩
 by_cases h5:s=(⟨#[105,102]⟩:BA)
 ·subst h5;rw [show aX (⟨#[105,102]⟩:BA)=1 by decide +kernel];clear N U h j u;(go_enter Tryz.func102,Tryz.ntmps102);(go_wp2_with fail);go_ret;exact ⟨rfl,rfl⟩
 by_cases h6:s=(⟨#[105,109,112,111,114,116]⟩:BA)
 ·subst h6;rw [show aX (⟨#[105,109,112,111,114,116]⟩:BA)=1 by decide +kernel];clear N U h j u h5;(go_enter Tryz.func102,Tryz.ntmps102);(go_wp2_with fail);go_ret;exact ⟨rfl,rfl⟩
 by_cases h7:s=(⟨#[105,110,116,101,114,102,97,99,101]⟩:BA)
 ·subst h7;rw [show aX (⟨#[105,110,116,101,114,102,97,99,101]⟩:BA)=1 by decide +kernel];clear N U h j u h5 h6;(go_enter Tryz.func102,Tryz.ntmps102);(go_wp2_with fail);go_ret;exact ⟨rfl,rfl⟩
 by_cases h8:s=(⟨#[112,97,99,107,97,103,101]⟩:BA)
 ·subst h8;rw [show aX (⟨#[112,97,99,107,97,103,101]⟩:BA)=1 by decide +kernel];clear N U h j u h5 h6 h7;(go_enter Tryz.func102,Tryz.ntmps102);(go_wp2_with fail);go_ret;exact ⟨rfl,rfl⟩
 by_cases h9:s=(⟨#[114,97,110,103,101]⟩:BA)
 ·subst h9;rw [show aX (⟨#[114,97,110,103,101]⟩:BA)=1 by decide +kernel];clear N U h j u h5 h6 h7 h8;(go_enter Tryz.func102,Tryz.ntmps102);(go_wp2_with fail);go_ret;exact ⟨rfl,rfl⟩
 by_cases D:s=(⟨#[114,101,116,117,114,110]⟩:BA)
 ·subst D;rw [show aX (⟨#[114,101,116,117,114,110]⟩:BA)=1 by decide +kernel];clear N U h j u h5 h6 h7 h8 h9;(go_enter Tryz.func102,Tryz.ntmps102);(go_wp2_with fail);go_ret;exact ⟨rfl,rfl⟩
 by_cases I:s=(⟨#[115,116,114,117,99,116]⟩:BA)
 ·subst I;rw [show aX (⟨#[115,116,114,117,99,116]⟩:BA)=1 by decide +kernel];clear N U h j u h5 h6 h7 h8 h9 D;(go_enter Tryz.func102,Tryz.ntmps102);(go_wp2_with fail);go_ret;exact ⟨rfl,rfl⟩
 by_cases J:s=(⟨#[116,121,112,101]⟩:BA)
 ·subst J;rw [show aX (⟨#[116,121,112,101]⟩:BA)=1 by decide +kernel];clear N U h j u h5 h6 h7 h8 h9 D I;(go_enter Tryz.func102,Tryz.ntmps102);(go_wp2_with fail);go_ret;exact ⟨rfl,rfl⟩
 by_cases K:s=(⟨#[118,97,114]⟩:BA)
 ·subst K;rw [show aX (⟨#[118,97,114]⟩:BA)=1 by decide +kernel];clear N U h j u h5 h6 h7 h8 h9 D I J;(go_enter Tryz.func102,Tryz.ntmps102);(go_wp2_with fail);go_ret;exact ⟨rfl,rfl⟩
 by_cases M:s=(⟨#[99,97,115,101]⟩:BA)
 ·subst M;rw [show aX (⟨#[99,97,115,101]⟩:BA)=2 by decide +kernel];clear N U h j u h5 h6 h7 h8 h9 D I J K;(go_enter Tryz.func102,Tryz.ntmps102);(go_wp2_with fail);go_ret;exact ⟨rfl,rfl⟩
 by_cases O:s=(⟨#[99,104,97,110]⟩:BA)
 ·subst O;rw [show aX (⟨#[99,104,97,110]⟩:BA)=2 by decide +kernel];clear N U h j u h5 h6 h7 h8 h9 D I J K M;(go_enter Tryz.func102,Tryz.ntmps102);(go_wp2_with fail);go_ret;exact ⟨rfl,rfl⟩
 by_cases q:s=(⟨#[99,111,110,115,116]⟩:BA)
 ·subst q;rw [show aX (⟨#[99,111,110,115,116]⟩:BA)=2 by decide +kernel];clear N U h j u h5 h6 h7 h8 h9 D I J K M O;(go_enter Tryz.func102,Tryz.ntmps102);(go_wp2_with fail);go_ret;exact ⟨rfl,rfl⟩
 by_cases ga:s=(⟨#[100,101,102,97,117,108,116]⟩:BA)
 ·subst ga;rw [show aX (⟨#[100,101,102,97,117,108,116]⟩:BA)=2 by decide +kernel];clear N U h j u h5 h6 h7 h8 h9 D I J K M O q;(go_enter Tryz.func102,Tryz.ntmps102);(go_wp2_with fail);go_ret;exact ⟨rfl,rfl⟩
 by_cases gb:s=(⟨#[100,101,102,101,114]⟩:BA)
 ·subst gb;rw [show aX (⟨#[100,101,102,101,114]⟩:BA)=2 by decide +kernel];clear N U h j u h5 h6 h7 h8 h9 D I J K M O q ga;(go_enter Tryz.func102,Tryz.ntmps102);(go_wp2_with fail);go_ret;exact ⟨rfl,rfl⟩
 by_cases gd:s=(⟨#[102,97,108,108,116,104,114,111,117,103,104]⟩:BA)
 ·subst gd;rw [show aX (⟨#[102,97,108,108,116,104,114,111,117,103,104]⟩:BA)=2 by decide +kernel];clear N U h j u h5 h6 h7 h8 h9 D I J K M O q ga gb;(go_enter Tryz.func102,Tryz.ntmps102);(go_wp2_with fail);go_ret;exact ⟨rfl,rfl⟩
 by_cases ge:s=(⟨#[103,111]⟩:BA)
 ·subst ge;rw [show aX (⟨#[103,111]⟩:BA)=2 by decide +kernel];clear N U h j u h5 h6 h7 h8 h9 D I J K M O q ga gb gd;(go_enter Tryz.func102,Tryz.ntmps102);(go_wp2_with fail);go_ret;exact ⟨rfl,rfl⟩
 by_cases gg:s=(⟨#[103,111,116,111]⟩:BA)
 ·subst gg;rw [show aX (⟨#[103,111,116,111]⟩:BA)=2 by decide +kernel];clear N U h j u h5 h6 h7 h8 h9 D I J K M O q ga gb gd ge;(go_enter Tryz.func102,Tryz.ntmps102);(go_wp2_with fail);go_ret;exact ⟨rfl,rfl⟩
 by_cases gh:s=(⟨#[109,97,112]⟩:BA)
 ·subst gh;rw [show aX (⟨#[109,97,112]⟩:BA)=2 by decide +kernel];clear N U h j u h5 h6 h7 h8 h9 D I J K M O q ga gb gd ge gg;(go_enter Tryz.func102,Tryz.ntmps102);(go_wp2_with fail);go_ret;exact ⟨rfl,rfl⟩
 by_cases gi:s=(⟨#[115,101,108,101,99,116]⟩:BA)
 ·subst gi;rw [show aX (⟨#[115,101,108,101,99,116]⟩:BA)=2 by decide +kernel];clear N U h j u h5 h6 h7 h8 h9 D I J K M O q ga gb gd ge gg gh;(go_enter Tryz.func102,Tryz.ntmps102);(go_wp2_with fail);go_ret;exact ⟨rfl,rfl⟩
 by_cases gj:s=(⟨#[115,119,105,116,99,104]⟩:BA)
 ·subst gj;rw [show aX (⟨#[115,119,105,116,99,104]⟩:BA)=2 by decide +kernel];clear N U h j u h5 h6 h7 h8 h9 D I J K M O q ga gb gd ge gg gh gi;(go_enter Tryz.func102,Tryz.ntmps102);(go_wp2_with fail);go_ret;exact ⟨rfl,rfl⟩
 (have hz:aX s=0:=by simp only [aX,mK,mL,List.any_cons,List.any_nil,N,U,h,j,u,h5,h6,h7,h8,h9,D,I,J,K,M,O,q,ga,gb,gd,ge,gg,gh,gi,gj,decide_false,Bool.or_false,Bool.false_eq_true,if_false]);have q0:(s.toList==[98,114,101,97,107])=false:=aS N;have q1:(s.toList==[99,111,110,116,105,110,117,101])=false:=aS U;have q2:(s.toList==[101,108,115,101])=false:=aS h;have q3:(s.toList==[102,111,114])=false:=aS j;have q4:(s.toList==[102,117,110,99])=false:=aS u;have q5:(s.toList==[105,102])=false:=aS h5;have q6:(s.toList==[105,109,112,111,114,116])=false:=aS h6;have q7:(s.toList==[105,110,116,101,114,102,97,99,101])=false:=aS h7;have q8:(s.toList==[112,97,99,107,97,103,101])=false:=aS h8;have q9:(s.toList==[114,97,110,103,101])=false:=aS h9;have gz:(s.toList==[114,101,116,117,114,110])=false:=aS D;have gy:(s.toList==[115,116,114,117,99,116])=false:=aS I;have gx:(s.toList==[116,121,112,101])=false:=aS J;have gw:(s.toList==[118,97,114])=false:=aS K;have gv:(s.toList==[99,97,115,101])=false:=aS M;have gu:(s.toList==[99,104,97,110])=false:=aS O;have gt:(s.toList==[99,111,110,115,116])=false:=aS q;have gs:(s.toList==[100,101,102,97,117,108,116])=false:=aS ga;have gr:(s.toList==[100,101,102,101,114])=false:=aS gb;have gq:(s.toList==[102,97,108,108,116,104,114,111,117,103,104])=false:=aS gd;have gp:(s.toList==[103,111])=false:=aS ge;have gn:(s.toList==[103,111,116,111])=false:=aS gg;have gm:(s.toList==[109,97,112])=false:=aS gh;have gl:(s.toList==[115,101,108,101,99,116])=false:=aS gi;have gk:(s.toList==[115,119,105,116,99,104])=false:=aS gj;rw [hz];clear hz N U h j u h5 h6 h7 h8 h9 D I J K M O q ga gb gd ge gg gh gi gj;(go_enter Tryz.func102,Tryz.ntmps102);(go_wp2_with fail);go_ret;exact ⟨rfl,rfl⟩
end
end Go.Proofs.YtiebcdeafofgdaaGreatDoor
