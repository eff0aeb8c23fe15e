/-
  Parts of the proof: Rask Ras. By an AI agent.
-/
import Derived.Test.YtiebcdeafofgdaaGreatDoorJ34
set_option maxRecDepth 100000
set_option maxHeartbeats 8000000
namespace Go.Proofs.YtiebcdeafofgdaaGreatDoor
section
open Go.RowKit Go.Lib Go.Proofs
structure nB (B:Nat) (X:Nat→Prop) (L:Nat) (w:World) (v:Value) (l:List Nd):Prop where
 out:∃ xs,w.ownsRow B 24 4 v l.length xs∧ak (fun b=>(X b∨B≤b)∧some b≠v.ownBlock∧b≠L) w l xs
 far:∀ g,v.ownBlock=some g→g≠L
section
variable {B L:Nat} {X:Nat→Prop} {w w':World} {v:Value} {l:List Nd}
theorem nB.nil (B:Nat) (X:Nat→Prop) (L:Nat) (w:World):nB B X L w (.slice none 0 0) []:=⟨⟨[],World.ownsRow_nil _ _ _ _,ak.nil⟩,fun g h=>by simp [Value.ownBlock] at h⟩
theorem nB.lt (h:nB B X L w v l):∀ g,v.ownBlock=some g→B≤g∧g<w.heap.size:=by obtain ⟨xs,D,_⟩:=h.out;exact fun g hg=>D.lt g hg
theorem nB.keep (h:nB B X L w v l) (J:∀ b,(X b∨B≤b)→b≠L→b<w.heap.size→w'.heap[b]? = w.heap[b]?):nB B X L w' v l:=by
 obtain ⟨xs,N,O⟩:=h.out;refine ⟨⟨xs,⟨N.1,?_⟩,O.keep fun b hb D=>J b hb.1 hb.2.2 D⟩,h.far⟩;rcases N.2 with U | ⟨g,cap,cur,e,M,I,r⟩
 ·exact .inl U
 ·refine .inr ⟨g,cap,cur,e,M,?_,r⟩;have D:g<w.heap.size:=by
   rcases Nat.lt_or_ge g w.heap.size with D | hge
   ·exact D
   ·rw [Array.getElem?_eq_none hge] at I;cases I
  exact (J g (.inr M) (h.far g (by rw [e];rfl)) D).trans I
theorem nB.values (h:nB B X L w v l):cR (fun b=>X b∨B≤b) w v l:=by
 obtain ⟨xs,D,J⟩:=h.out;rcases D.2 with ⟨rfl,y⟩ | ⟨g,cap,cur,rfl,q,U,I,_,N,M⟩
 ·exact ⟨none,0,xs,by rw [y],by omega,⟨D.1,fun h=>by omega⟩,J.mono fun b hb _=>hb.1⟩
 ·refine ⟨_,cap,xs,rfl,I,⟨D.1,fun _=>⟨g,0,rfl,.inr q,fun j u hu=>?_⟩⟩,J.mono fun b hb _=>hb.1⟩;(have O:j<l.length * 4:=by have:=(List.getElem?_eq_some_iff.1 hu).1;rw [D.1] at this;exact this);rw [Nat.zero_add];unfold World.cell?;rw [U];simp only [Option.isSome_none,Bool.false_eq_true,if_false];rw [←M,List.getElem?_take_of_lt O] at hu;rw [←hu];simp
theorem nB.form (h:nB B X L w v l):∃ A c,v=.slice A l.length c∧l.length≤c:=by obtain ⟨A,c,xs,e,D,_⟩:=h.values;exact ⟨A,c,e,D⟩
end
theorem Fk {o:Oper} {a:Act} {K:Act→World→Prop} {Q:Exit→Act→World→Prop} (s x:Operand)
  (ho:o.op=.call { callee:=.builtin .append,args:=#[s,x],argTypes:=#[22,22] })
  (B S L:Nat) (X:Nat→Prop) (w1:World) (u:Value) (l:List Nd) (n:Nd) (A:Option Addr) (cap:Nat) (hs:a.eval s=u) (T:Nat) (hx:a.eval x=.slice (some ⟨T,0,none⟩) 1 1) (hT:w1.heap.size=T)
  (z:nB B X L w1 u l) (y:∀ b,X b→b<B) (hB:B≤S) (hS:S≤w1.heap.size) (gi:B≤L) (gh:L<S) (hu:∀ g,u.ownBlock=some g→g<S) (hl:l.length≤1000000)
  (hV:bD (fun b=>X b∨S≤b) w1 n [.int .i64 n.kind,.string n.text,.slice A n.kids.length cap,.int .i64 n.pos])
  (h:∀ g c w2,nB B X L w2 (.slice (some ⟨g,0,none⟩) (l.length+1) c) (l++[n])→Below B w1 w2→w2.heap[L]? = w1.heap[L]? → K (a.put o.dst (.slice (some ⟨g,0,none⟩) (l.length+1) c)) w2) :
  o.wp Tryz.prog a (w1.alloc (.cells (nv n A cap) 24)) K Q:=by
 subst hT;obtain ⟨i0,hi,gd,gb,ga⟩:=info_parts mM;obtain ⟨xs,O,ge⟩:=z.out;refine wp_append_lies _ s x 22 ho B 24 i0 _ 4 56 Tryz.underlying22 hi gd gb ga rfl (by omega) u l.length xs hs (O.alloc _) ⟨w1.heap.size,0,none⟩ 1 1 [.int .i64 n.kind,.string n.text,.slice A n.kids.length cap,.int .i64 n.pos] hx rfl
  (World.news_of_block (cs:=(nv n A cap)) (heap_alloc_new _ _)) (nF n A cap) (by omega) (by unfold maxLen;omega) (by omega) (by rw [World.size_alloc];omega) _ rfl ?_
 intro g c w2 hown1 M q _;have N:∀ g,u.ownBlock=some g→B≤g:=fun g M=>(z.lt g M).1;have I:∀ b,b<w1.heap.size→some b≠u.ownBlock→w2.heap[b]? = w1.heap[b]? := fun b hb hne=>(M.block b (by rw [World.size_alloc];omega) hne).trans (Below.heap_alloc w1 _ b hb);have gg:w1.heap.size≤w2.heap.size:=Nat.le_trans (by rw [World.size_alloc];omega) M.size;have U:g≠L:=by
  rcases q with e | e
  ·exact z.far g e
  ·rw [World.size_alloc] at e;omega
 have J:ak (fun b=>(X b∨B≤b)∧some b≠(Value.slice (some ⟨g,0,none⟩) (l.length+1) c).ownBlock∧b≠L) w2 (l++[n]) (xs++[.int .i64 n.kind,.string n.text,.slice A n.kids.length cap,.int .i64 n.pos]):=by
  have h1:ak (fun b=>(X b∨B≤b)∧some b≠u.ownBlock∧b≠L∧b<w1.heap.size) w1 (l++[n]) (xs++[.int .i64 n.kind,.string n.text,.slice A n.kids.length cap,.int .i64 n.pos]):=
   (ge.mono fun b hb D=>⟨hb.1,hb.2.1,hb.2.2,D⟩).app (ak.one (hV.mono fun b hb D=>⟨hb.imp id fun hb=>Nat.le_trans hB hb,fun e=>by
    have h1:=hu b e.symm;have h2:=N b e.symm;rcases hb with hb | hb
    ·have:=y b hb;omega
    ·omega,fun hz=>by
    rcases hb with hb | hb
    ·have:=y b hb;omega
    ·omega,D⟩))
  have h2:=h1.keep (w':=w2) fun b hb D=>I b D hb.2.1;refine h2.mono fun b hb _=>⟨hb.1,fun e=>?_,hb.2.2.1⟩;(have e3:b=g:=by simpa [Value.ownBlock] using e);subst e3;rcases q with e | e
  ·exact hb.2.1 e.symm
  ·rw [World.size_alloc] at e;have:=hb.2.2.2;omega
 refine h g c w2 ⟨⟨_,by rw [List.length_append];exact hown1,J⟩,fun g' hg'=>?_⟩ ⟨M.os,M.tape,M.output,gg,fun b hb=>?_⟩ ?_
 ·(have e3:g=g':=by simpa [Value.ownBlock] using hg');rw [←e3];exact U
 ·exact I b (by omega) fun e=>by have:=N b e.symm;omega
 ·exact I L (by omega) fun e=>z.far L e.symm rfl
theorem wX {ops:Array Oper} {rest:List Oper} {o:Oper} {a:Act} {Q:Exit→Act→World→Prop} (D:o.guard=none) (s x:Operand)
  (U:o.op=.call { callee:=.builtin .append,args:=#[s,x],argTypes:=#[22,22] })
  (B S L:Nat) (X:Nat→Prop) (w1:World) (u:Value) (l:List Nd) (n:Nd) (A:Option Addr) (cap:Nat) (hs:a.eval s=u) (T:Nat) (N:a.eval x=.slice (some ⟨T,0,none⟩) 1 1) (hT:w1.heap.size=T)
  (hO:nB B X L w1 u l) (I:∀ b,X b→b<B) (hB:B≤S) (z:S≤w1.heap.size) (M:B≤L) (J:L<S) (O:∀ g,u.ownBlock=some g→g<S) (q:l.length≤1000000)
  (y:bD (fun b=>X b∨S≤b) w1 n [.int .i64 n.kind,.string n.text,.slice A n.kids.length cap,.int .i64 n.pos])
  (h:∀ g c w2,nB B X L w2 (.slice (some ⟨g,0,none⟩) (l.length+1) c) (l++[n])→Below B w1 w2→w2.heap[L]? = w1.heap[L]? → wpList Tryz.prog ops Q rest (a.put o.dst (.slice (some ⟨g,0,none⟩) (l.length+1) c)) w2) :
  wpList Tryz.prog ops Q (o::rest) a (w1.alloc (.cells (nv n A cap) 24)):=
 wpList_plain D fun _ hK=>Fk s x U B S L X w1 u l n A cap hs T N hT hO I hB z M J O q y fun g c w2 h1 h2 h3=>hK _ _ (h g c w2 h1 h2 h3)
end
section
open Go.RowKit Go.Lib Go.Proofs
attribute [local go_sem ↓] Go.wp_at_zero Go.wp_at_succ
attribute [local go_sem] aW aX aY aZ
mutual
def Ix:Nd→Prop
 | .mk k _ l _=>(k=22→∃ x r,l=x::r∧r≠[]∧x.kind≠10)∧l.length≤1000000∧su l
def su:List Nd→Prop
 | []=>True
 | x::r=>Ix x∧su r
end
theorem su.mem {l:List Nd} (h:su l):∀ i (D:i<l.length),Ix l[i]:=by
 induction l with
 | nil=>intro i D;simp at D
 | cons x r ih=>
  unfold su at h;intro i D;cases i with
  | zero=>exact h.1
  | succ i=>exact ih h.2 i (by simpa using D)
theorem Ix.kids {n:Nd} (h:Ix n):(n.kind=22→∃ x r,n.kids=x::r∧r≠[]∧x.kind≠10)∧n.kids.length≤1000000∧su n.kids:=by cases n;unfold Ix at h;exact h
theorem As {n:Nd} (D:n.kind=10∨n.kind=11∨n.kind=12):bF n=some n:=by cases n;unfold bF;exact if_pos D
theorem At {n:Nd} (D:¬ (n.kind=10∨n.kind=11∨n.kind=12)) (h:n.kind=18):bF n=some (.mk 10 n.text [] n.pos):=by cases n;unfold bF;exact (if_neg D).trans (if_pos h)
theorem Au {n:Nd} (D:¬ (n.kind=10∨n.kind=11∨n.kind=12)) (h:n.kind≠18) (I:n.kind≠22):bF n=none:=by cases n;unfold bF;exact (if_neg D).trans ((if_neg h).trans (if_neg I))
theorem DP {t:ByteArray} {x:Nd} {r:List Nd} {a:Int} : bF (.mk 22 t (x::r) a)=match bF x with
  | some m=>if m.kind=10∧m.kids.length=0 then (cH r).map fun r'=>.mk m.kind m.text r' m.pos else none
  | none=>none:=by
 rw [bF];rw [if_neg (by decide),if_neg (by decide),if_pos rfl];cases bF x with
 | none=>rfl
 | some m=>cases m;rfl
theorem pf {fn:Func} {q r:Tmp} (J:fn.results = #[.cell q 24,.tmp r]) (tmps:Array Value) {w:World} {g:Nat} {a b c d v:Value} (N:tmps.getD q undef=.pointer (some ⟨g,0,none⟩)) (M:tmps.getD r undef=v) (hb:aj w g 24 #[a,b,c,d]) :
  (results fn tmps).run Tryz.prog w=.ok (.tuple #[.agg #[a,b,c,d],v]) w:=by obtain ⟨y,h,U,O,_,_,_,_⟩:=ac hb;unfold results;rw [J];(have I:tmps[q]?.getD undef=.pointer (some ⟨g,0,none⟩):=by simpa using N);(have D:tmps[r]?.getD undef=v:=by simpa using M);simp [I,D,go_sem,y,h,U,O]
def tj (X:Nat→Prop) (w:World) (r:Option Nd) (k10:Prop) (e:Ending) (w':World):Prop:=
 Below w.heap.size w w'∧match r with
 | some m=>∃ A c,e=.returned (.tuple #[.agg #[.int .i64 m.kind,.string m.text,.slice A m.kids.length c,.int .i64 m.pos],.bool true]) ∧
  av (fun b=>X b∨w.heap.size≤b) w' (.agg #[.int .i64 m.kind,.string m.text,.slice A m.kids.length c,.int .i64 m.pos]) m∧(k10→m.kind=10→m.kids=[]→A=none∧c=0)
 | none=>e=.returned (.tuple #[.agg aV,.bool false])
theorem tm {B:Nat} {w wk:World} {g:Nat} (h:Below B w wk) (D:B≤g) (a b c d:Value):Below B w (bu wk g a b c d):=
 (((h.setCell (p:=⟨g,0,none⟩) D a).setCell (p:=⟨g,1,none⟩) D b).setCell (p:=⟨g,2,none⟩) D c).setCell (p:=⟨g,3,none⟩) D d
theorem nV {X:Nat→Prop} {w wk:World} {m:Nd} {r:Option Nd} {k10:Prop} {A:Option Addr} {c:Nat} {z0 N M J:Value} {g q rr:Nat} {fn:Func} {a:Act} (h:r=some m)
  (O:av (fun b=>(X b∨w.heap.size≤b)∧b≠g) wk (.agg #[.int .i64 m.kind,.string m.text,.slice A m.kids.length c,.int .i64 m.pos]) m) (hb:Below w.heap.size w wk) (hB:aj wk g 24 #[z0,N,M,J]) (z:w.heap.size≤g)
  (y:k10→m.kind=10→m.kids=[]→A=none∧c=0) (I:fn.results = #[.cell q 24,.tmp rr]) (U:a.tmps.getD q undef=.pointer (some ⟨g,0,none⟩)) (D:a.tmps.getD rr undef=.bool true) (hd:a.defers=[]) :
  bodyPost Tryz.prog fn (tj X w r k10) .ret a (bu wk g (.int .i64 m.kind) (.string m.text) (.slice A m.kids.length c) (.int .i64 m.pos)):=by refine bodyPost_ret (pf I _ U D (br hB _ _ _ _)) hd ?_;unfold tj;rw [h];exact ⟨tm hb z _ _ _ _,A,c,rfl,(O.kept (bK (fun b hb=>hb.2) _ _ _ _)).mono fun b hb _=>hb.1,y⟩
theorem nW {X:Nat→Prop} {w wk:World} {r:Option Nd} {k10:Prop} {z0 z1 z2 z3:Value} {g q rr:Nat} {fn:Func} {a:Act} (M:r=none)
  (hb:Below w.heap.size w wk) (O:aj wk g 24 #[z0,z1,z2,z3]) (N:w.heap.size≤g)
  (I:fn.results = #[.cell q 24,.tmp rr]) (J:a.tmps.getD q undef=.pointer (some ⟨g,0,none⟩)) (D:a.tmps.getD rr undef=.bool false) (hd:a.defers=[]) :
  bodyPost Tryz.prog fn (tj X w r k10) .ret a (bu wk g (.int .i64 0) (.string ⟨#[]⟩) (.slice none 0 0) (.int .i64 0)):=by refine bodyPost_ret (pf I _ J D (br O _ _ _ _)) hd ?_;unfold tj;rw [M];exact ⟨tm hb N _ _ _ _,rfl⟩
theorem Cb (N:Nat):∀ (n:Nd),SizeOf.sizeOf n≤N→Ix n→∀ (X:Nat→Prop) (w:World) (v:Value),av X w v n →
  Calls Tryz.prog 189 #[v] w (tj X w (bF n) (n.kind≠10)):=by
 induction N with
 | zero=>intro n h;exact absurd h (by cases n;simp)
 | succ N ih=>
  intro n hN hI X w v hv;obtain ⟨A,cp,rfl,hC⟩:=hv.toC;generalize hres:bF n=res at *;have gw:=(aj.new w 24 #[.int .i64 n.kind,.string n.text,.slice A n.kids.length cp,.int .i64 n.pos]).alloc (.cells aV 24);have ga:aj ((w.alloc (.cells #[.int .i64 n.kind,.string n.text,.slice A n.kids.length cp,.int .i64 n.pos] 24)).alloc (.cells aV 24)) (w.heap.size+1) 24 aV:=aj.new_at (by simp) _ _;have O:Below w.heap.size w ((w.alloc (.cells #[.int .i64 n.kind,.string n.text,.slice A n.kids.length cp,.int .i64 n.pos] 24)).alloc (.cells aV 24)):=by (repeat' (first | with_reducible exact Below.refl _ _ | with_reducible refine Below.alloc ?_ ?_ _ | with_reducible refine Below.setCell ?_ ?_ _ | with_reducible refine Below.drew ?_ | with_reducible refine al ?_ _ | (simp <;> omega) | omega))
  (have km:((w.alloc (.cells #[.int .i64 n.kind,.string n.text,.slice A n.kids.length cp,.int .i64 n.pos] 24)).alloc (.cells aV 24)).heap.size=w.heap.size+2:=by simp);have gv:=(hv.mono (Y:=fun b=>X b∧b<w.heap.size) fun b hb J=>⟨hb,J⟩).below (O.mono (Nat.le_refl _));clear hC hv;(go_enter Tryz.func189,Tryz.ntmps189);(go_upto_region 1 with fail);change Code.wp _ _ _ _ ((w.alloc (.cells #[.int .i64 n.kind,.string n.text,.slice A n.kids.length cp,.int .i64 n.pos] 24)).alloc (.cells aV 24));generalize (w.alloc (.cells #[.int .i64 n.kind,.string n.text,.slice A n.kids.length cp,.int .i64 n.pos] 24)).alloc (.cells aV 24)=w0 at *;obtain ⟨x0,x1,x2,x3,-,-,-,-⟩:=ac gw;obtain ⟨d0,d1,d2,d3,e0,e1,e2,e3⟩:=ac ga;by_cases hk:n.kind=10∨n.kind=11∨n.kind=12
  case pos=>
   have HF:=hid (show res=some n by rw [←hres];exact As hk);have HK:=hid (show n.kind≠10→n.kind=10→n.kids=[]→A=none∧cp=0 from fun h1 h2=>absurd h2 h1);have ht:=gv.mono (Y:=fun b=>(X b∨w.heap.size≤b)∧b≠w.heap.size+1) fun b hb _=>⟨.inl hb.1,by have:=hb.2;omega⟩;clear hres;by_cases gt:n.kind=10
   ·have h6:(n.kind==10)=true:=beq_iff_eq.2 gt;clear hk gt;(go_wp2_with fail);exact nV HF.out ht O ga (Nat.le_succ _) HK.out rfl (by rfl) (by rfl) rfl
   ·have h6:(n.kind==10)=false:=beq_eq_false_iff_ne.2 gt;by_cases gz:n.kind=11
    ·have h5:(n.kind==11)=true:=beq_iff_eq.2 gz;clear hk gt gz;(go_wp2_with fail);exact nV HF.out ht O ga (Nat.le_succ _) HK.out rfl (by rfl) (by rfl) rfl
    ·have h5:(n.kind==11)=false:=beq_eq_false_iff_ne.2 gz;have jt:(n.kind==12)=true:=beq_iff_eq.2 (by omega);clear hk gt gz;(go_wp2_with fail);exact nV HF.out ht O ga (Nat.le_succ _) HK.out rfl (by rfl) (by rfl) rfl
  have h6:(n.kind==10)=false:=beq_eq_false_iff_ne.2 (by omega);have h5:(n.kind==11)=false:=beq_eq_false_iff_ne.2 (by omega);have jt:(n.kind==12)=false:=beq_eq_false_iff_ne.2 (by omega);by_cases ge:n.kind=18
  ·have HF:=hid (show res=some (.mk 10 n.text [] n.pos) by rw [←hres];exact At hk ge);have js:(n.kind==18)=true:=beq_iff_eq.2 ge;clear hres hk ge;(go_wp2_with fail);refine (aC _ _ _ _ _ ⟨_,_,_,rfl⟩).mono ?_;rintro e w1 ⟨rfl,I⟩;have gd:=ga.below I (by omega);have gn:=O.trans (I.mono (by omega));clear x0 x1 x2 x3 d0 d1 d2 d3 e0 e1 e2 e3;obtain ⟨d0,d1,d2,d3,e0,e1,e2,e3⟩:=ac gd;(go_wp2_with fail);exact nV (m:=.mk 10 n.text [] n.pos) HF.out (av.leaf 10 n.text n.pos) gn gd (Nat.le_succ _) (fun _ _ _=>⟨rfl,rfl⟩) rfl (by rfl) (by rfl) rfl
  have js:(n.kind==18)=false:=beq_eq_false_iff_ne.2 ge;by_cases gp:n.kind=22
  case neg=>have HF:=hid (show res=none by rw [←hres];exact Au hk ge gp);have jr:(n.kind==22)=false:=beq_eq_false_iff_ne.2 gp;clear hres hk ge gp;(go_wp2_with fail);exact nW HF.out O ga (Nat.le_succ _) rfl (by rfl) (by rfl) rfl
  have jr:(n.kind==22)=true:=beq_iff_eq.2 gp;obtain ⟨x,r,ju,j5,h7⟩:=hI.kids.1 gp;have kp:=hI.kids.2.1;have gx:=hI.kids.2.2;obtain ⟨nk,nt,nl,np⟩:=n;simp only [Nd.kind_mk,Nd.text_mk,Nd.kids_mk,Nd.pos_mk] at *;subst ju;clear hI hk ge;rw [gp] at hres;rw [DP] at hres;have gi:=hid hres;clear hres;(have jd:SizeOf.sizeOf x≤N:=by simp at hN;omega);(have je:∀ y∈r,SizeOf.sizeOf y≤N:=fun y hy=>by have:=List.sizeOf_lt_of_mem hy;simp at hN;omega);have kw:=hid gx;have kc:Ix x:=gx.1;have kd:∀ i (hi:i<r.length),Ix r[i]:=su.mem gx.2;have hr:cR (fun b=>X b∧b<w.heap.size) w0 (.slice A (x::r).length cp) (x::r):=av.kidsV gv;(have kr:r.length+1≤cp:=by obtain ⟨A9,c9,kk,e9,h9,-⟩:=hr;injection e9 with _ _ e9;rw [e9];exact h9);have ko:0<r.length:=List.length_pos_iff.2 j5;(have ks:¬ cp=1:=by omega);obtain ⟨b,off,A1,c1,rfl,j9,-,ho,hn,hm,hl,hp⟩:=hr.kid 0 (by simp);have he:∀ i (hi:i<r.length) W,Below w.heap.size w0 W→∃ A1 c1,W.cell? ⟨b,off+4+i * 4,none⟩=some (.int .i64 r[i].kind)∧W.cell? ⟨b,off+4+i * 4+1,none⟩=some (.string r[i].text) ∧
    W.cell? ⟨b,off+4+i * 4+2,none⟩=some (.slice A1 r[i].kids.length c1)∧W.cell? ⟨b,off+4+i * 4+3,none⟩=some (.int .i64 r[i].pos) ∧
    av (fun b=>X b∧b<w.heap.size) W (.agg #[.int .i64 r[i].kind,.string r[i].text,.slice A1 r[i].kids.length c1,.int .i64 r[i].pos]) r[i]:=by intro i hi W hW;have hV:=gv.keep (w':=W) fun b hb _=>hW.block b hb.2;have j7:cR (fun b=>X b∧b<w.heap.size) W (.slice (some ⟨b,off,none⟩) (x::r).length cp) (x::r):=av.kidsV hV;obtain ⟨b',off',A2,c2,eA,-,-,j0,j1,j2,j3,jw⟩:=j7.kid (i+1) (by simp;omega);injection eA with eA;injection eA with eA1 eA2;subst eA1 eA2;(have ea:off+(i+1) * 4=off+4+i * 4:=by omega);rw [ea] at j0 j1 j2 j3;exact ⟨A2,c2,j0,j1,j2,j3,jw⟩
  simp only [Nat.zero_mul,Nat.add_zero,List.getElem_cons_zero] at ho hn hm hl hp;have HK:=hid he;have ki:b<w.heap.size:=j9.2;clear he hr gv gx;have hq:(x::r).length=r.length+1:=rfl;generalize (x::r).length=q at *;(have kq:(0:Int)<(q:Int):=by omega);(go_wp2_with fail);refine (ih x jd kc _ _ _ hp).mono ?_;cases hA:bF x with
  | none=>have HF:=hid (show res=none by rw [←gi.out,hA]);rintro e w1 ⟨I,rfl⟩;unfold aV;have jg:=I.size;have gd:=ga.below I (by omega);have gn:=O.trans (I.mono (by omega));have gb:=gd.alloc (.cells aV 24);have gm:=gn.alloc (by omega) (.cells aV 24);unfold aV at gb gm;clear x0 x1 x2 x3 d0 d1 d2 d3 e0 e1 e2 e3 ho hn hm hl ga gd gw gi;obtain ⟨d0,d1,d2,d3,e0,e1,e2,e3⟩:=ac gb;(go_wp2_with fail);exact nW HF.out gm gb (Nat.le_succ _) rfl (by rfl) (by rfl) rfl
  | some m=>
   have g0:=hid (show (if m.kind=10∧m.kids.length=0 then (cH r).map fun r'=>.mk m.kind m.text r' m.pos else none)=res by rw [←gi.out,hA]);rintro e w1 ⟨I,A3,c3,rfl,jv,gh⟩;have gd:=ga.below I (by omega);have jl:=gw.below I (by omega);have gn:=O.trans (I.mono (by omega));have hh:Below (w.heap.size+2) w0 w1:=I.mono (by omega);have jg:=I.size;have gb:=gd.alloc (.cells #[.int .i64 m.kind,.string m.text,.slice A3 m.kids.length c3,.int .i64 m.pos] 24);have jk:=jl.alloc (.cells #[.int .i64 m.kind,.string m.text,.slice A3 m.kids.length c3,.int .i64 m.pos] 24);have gr:=aj.new w1 24 #[.int .i64 m.kind,.string m.text,.slice A3 m.kids.length c3,.int .i64 m.pos];have gm:=gn.alloc (by omega) (.cells #[.int .i64 m.kind,.string m.text,.slice A3 m.kids.length c3,.int .i64 m.pos] 24);have hf:=hh.alloc (by omega) (.cells #[.int .i64 m.kind,.string m.text,.slice A3 m.kids.length c3,.int .i64 m.pos] 24);(have j4:(w1.alloc (.cells #[.int .i64 m.kind,.string m.text,.slice A3 m.kids.length c3,.int .i64 m.pos] 24)).heap.size=w1.heap.size+1:=by simp);clear x0 x1 x2 x3 d0 d1 d2 d3 e0 e1 e2 e3 ho hn hm hl ga gd gw jl gi gn hh I hp jv;(go_upto_region 10 with fail);change Code.wp _ _ _ _ (w1.alloc (.cells #[.int .i64 m.kind,.string m.text,.slice A3 m.kids.length c3,.int .i64 m.pos] 24));generalize hLL:w1.heap.size=L at *;generalize w1.alloc (.cells #[.int .i64 m.kind,.string m.text,.slice A3 m.kids.length c3,.int .i64 m.pos] 24)=w2 at *;clear hLL;obtain ⟨x0,x1,x2,x3,-,-,-,-⟩:=ac jk;obtain ⟨d0,d1,d2,d3,e0,e1,e2,e3⟩:=ac gb;obtain ⟨y0,y1,y2,y3,f0,f1,f2,f3⟩:=ac gr;by_cases D:m.kind=10
   case neg=>have HF:=hid (show res=none by rw [←g0.out,if_neg (fun h=>D h.1)]);have g1:(m.kind != 10)=true:=bne_iff_ne.2 D;have g2:(m.kind==10)=false:=beq_eq_false_iff_ne.2 D;clear D gh;(go_wp2_with fail);exact nW HF.out gm gb (Nat.le_succ _) rfl (by rfl) (by rfl) rfl
   (have g1:(m.kind != 10)=false:=by rw [D];rfl);(have g2:(m.kind==10)=true:=by rw [D];rfl);by_cases gq:m.kids.length=0
   case neg=>have HF:=hid (show res=none by rw [←g0.out,if_neg (fun h=>gq h.2)]);(have g3:decide ((m.kids.length:Int)>0)=true:=by rw [decide_eq_true_iff];omega);(have g4:(0:Int)<(m.kids.length:Int):=by omega);clear D gh;(go_wp2_with fail);exact nW HF.out gm gb (Nat.le_succ _) rfl (by rfl) (by rfl) rfl
   obtain ⟨rfl,rfl⟩:=gh h7 D (List.eq_nil_of_length_eq_zero gq);have HF:=hid (show (cH r).map (fun r'=>.mk m.kind m.text r' m.pos)=res by rw [←g0.out,if_pos ⟨D,gq⟩]);rw [gq] at gr y2;clear D gq g0 gh;have jm:nB (w.heap.size+2) (fun b=>X b∧b<w.heap.size) L w2 (.slice none 0 0) []:=nB.nil _ _ _ _;(have jf:w.heap.size+2≤L:=by omega);(have kn:r.length≤1000000:=by omega);generalize hmk:m.kind=mk at *;generalize hmt:m.text=mt at *;generalize hmp:m.pos=mp at *;(go_wp2_with fail);clear x0 x1 x2 x3 d0 d1 d2 d3 e0 e1 e2 e3 y0 y1 y3 f0 f1 f2 f3 y2 gm j4 jg jk;go_loopg [52] r.length (fun gg jq wr=>∃ (j:Nat) (acc:List Nd) (A4:Option Addr) (c4:Nat),jq=.int .i64 (j:Int)∧j+gg=r.length∧acc.length≤j∧nB (w.heap.size+2) (fun b=>X b∧b<w.heap.size) L wr (.slice A4 acc.length c4) acc ∧
    aj wr L 24 #[.int .i64 mk,.string mt,.slice A4 acc.length c4,.int .i64 mp]∧aj wr (w.heap.size+1) 24 aV∧Below (w.heap.size+2) w0 wr∧L<wr.heap.size∧(acc=[]→A4=none∧c4=0)∧cH r=(cH (r.drop j)).map fun z=>acc++z)
   case atStart=>exact ⟨0,[],none,0,rfl,by omega,by simp,jm,gr,gb,hf,gr.lt,fun _=>⟨rfl,rfl⟩,by simp⟩
   case round=>
    clear jm gr gb hf;obtain ⟨j,acc,A4,c4,rfl,hj,kh,hO,hL,hG,hB,ku,j6,gj⟩:=hrel;have jo:=O.trans (hB.mono (by omega));obtain ⟨d0,d1,d2,d3,e0,e1,e2,e3⟩:=ac hG;obtain ⟨y0,y1,y2,y3,f0,f1,f2,f3⟩:=ac hL;by_cases gu:j<r.length
    case neg=>
     (have ej:j=r.length:=by omega);(have g5:¬ (j:Int)<(r.length:Int):=by omega);have g6:decide ((j:Int)<(r.length:Int))=false:=decide_eq_false g5;have HE:=hid (show res=some (.mk mk mt acc mp) by rw [←HF.out,gj,List.drop_of_length_le (by omega)];show some (Nd.mk mk mt (acc++[]) mp)=_;rw [List.append_nil]);have hV:=(av.of_slice hO.values mk mt mp).mono (Y:=fun b=>(X b∨w.heap.size≤b)∧b≠w.heap.size+1) fun b hb _=>by
      rcases hb with ⟨h1,h2⟩ | hb
      ·exact ⟨.inl h1,by omega⟩
      ·exact ⟨.inr (by omega),by omega⟩
     clear gj HF;(go_wp2_with fail);exact nV (m:=.mk mk mt acc mp) HE.out hV jo hG (Nat.le_succ _) (fun _ _ h=>j6 h) rfl (by rfl) (by rfl) rfl
    case pos=>
     (have g5:(j:Int)<(r.length:Int):=by omega);have g6:decide ((j:Int)<(r.length:Int))=true:=decide_eq_true g5;(have g7:(0:Int)≤(j:Int):=by omega);have g8:IntKind.i64.wrap ((j:Int)+1)=(j:Int)+1:=IntWalk.i64_in _ (by omega);obtain ⟨A5,c5,k0,k1,k2,k3,jb⟩:=HK.out j gu wr (hB.mono (by omega));have jh:r.drop j=r[j]::r.drop (j+1):=List.drop_eq_getElem_cons gu;have jc:=je r[j] (List.getElem_mem gu);have kb:=kd j gu;generalize r[j]=y at *;have hu:=hO.keep (w':=wr.alloc (.cells #[.int .i64 y.kind,.string y.text,.slice A5 y.kids.length c5,.int .i64 y.pos] 24)) fun b _ _ J=>Below.heap_alloc wr _ b J;have hz:=hL.alloc (.cells #[.int .i64 y.kind,.string y.text,.slice A5 y.kids.length c5,.int .i64 y.pos] 24);have gs:=hG.alloc (.cells #[.int .i64 y.kind,.string y.text,.slice A5 y.kids.length c5,.int .i64 y.pos] 24);have kv:=hB.size;have h4:=hB.alloc (show w.heap.size+2≤wr.heap.size by omega) (.cells #[.int .i64 y.kind,.string y.text,.slice A5 y.kids.length c5,.int .i64 y.pos] 24);have ji:=aj.new wr 24 #[.int .i64 y.kind,.string y.text,.slice A5 y.kids.length c5,.int .i64 y.pos];have ja:=jb.keep (w':=wr.alloc (.cells #[.int .i64 y.kind,.string y.text,.slice A5 y.kids.length c5,.int .i64 y.pos] 24)) fun b _ J=>Below.heap_alloc wr _ b J;(have kl:(wr.alloc (.cells #[.int .i64 y.kind,.string y.text,.slice A5 y.kids.length c5,.int .i64 y.pos] 24)).heap.size=wr.heap.size+1:=by simp);(go_upto_region 15 with fail);change Code.wp _ _ _ _ (wr.alloc (.cells #[.int .i64 y.kind,.string y.text,.slice A5 y.kids.length c5,.int .i64 y.pos] 24));generalize hTT:wr.heap.size=T at *;generalize wr.alloc (.cells #[.int .i64 y.kind,.string y.text,.slice A5 y.kids.length c5,.int .i64 y.pos] 24)=w6 at *;clear d0 d1 d2 d3 e0 e1 e2 e3 y0 y1 y2 y3 f0 f1 f2 f3 k0 k1 k2 k3 hO hL hG hB jo jb;obtain ⟨t0,t1,t2,t3,-,-,-,-⟩:=ac ji;(go_wp2_with fail);refine (ih y jc kb _ _ _ ja).mono ?_;cases jp:bF y with
     | none=>have HE:=hid (show res=none by rw [←HF.out,gj,jh,cH,jp];rfl);rintro e w7 ⟨M,rfl⟩;unfold aV;have jz:=M.size;have gl:=(gs.below M gs.lt).alloc (.cells aV 24);have gy:=((O.trans (h4.mono (by omega))).trans (M.mono (by omega))).alloc (by omega) (.cells aV 24);unfold aV at gl gy;obtain ⟨d0,d1,d2,d3,e0,e1,e2,e3⟩:=ac gl;clear gj HF;(go_wp2_with fail);exact nW HE.out gy gl (Nat.le_succ _) rfl (by rfl) (by rfl) rfl
     | some n2=>
      have jj:cH r=(cH (r.drop (j+1))).map fun z=>(acc++[n2])++z:=by
       rw [gj,jh,cH,jp];cases cH (r.drop (j+1)) with
       | none=>rfl
       | some z=>simp
      rintro e w7 ⟨M,A7,c7,rfl,h8,-⟩;have jz:=M.size;have jn:=av.cells h8;have jx:=fun g hg=>(hu.lt g hg).2;have ka:=(hu.keep (w':=w7) fun b _ _ J=>M.block b J).keep (w':=w7.alloc (.cells #[.int .i64 n2.kind,.string n2.text,.slice A7 n2.kids.length c7,.int .i64 n2.pos] 24)) fun b _ _ J=>Below.heap_alloc w7 _ b J;have hw:=(hz.below M hz.lt).alloc (.cells #[.int .i64 n2.kind,.string n2.text,.slice A7 n2.kids.length c7,.int .i64 n2.pos] 24);have gl:=(gs.below M gs.lt).alloc (.cells #[.int .i64 n2.kind,.string n2.text,.slice A7 n2.kids.length c7,.int .i64 n2.pos] 24);have gy:=(h4.trans (M.mono (by omega))).alloc (show w.heap.size+2≤w7.heap.size by omega) (.cells #[.int .i64 n2.kind,.string n2.text,.slice A7 n2.kids.length c7,.int .i64 n2.pos] 24);have j8:=aj.new w7 24 #[.int .i64 n2.kind,.string n2.text,.slice A7 n2.kids.length c7,.int .i64 n2.pos];have ke:=jn.keep (w':=w7.alloc (.cells #[.int .i64 n2.kind,.string n2.text,.slice A7 n2.kids.length c7,.int .i64 n2.pos] 24)) fun b _ J=>Below.heap_alloc w7 _ b J;(have jy:(w7.alloc (.cells #[.int .i64 n2.kind,.string n2.text,.slice A7 n2.kids.length c7,.int .i64 n2.pos] 24)).heap.size=w7.heap.size+1:=by simp);clear gj HF hu hz gs h4 ji ja h8 jn M t0 t1 t2 t3;(go_upto_region 16 with fail);change Code.wp _ _ _ _ (w7.alloc (.cells #[.int .i64 n2.kind,.string n2.text,.slice A7 n2.kids.length c7,.int .i64 n2.pos] 24));generalize hUU:w7.heap.size=U at *;generalize w7.alloc (.cells #[.int .i64 n2.kind,.string n2.text,.slice A7 n2.kids.length c7,.int .i64 n2.pos] 24)=w8 at *;obtain ⟨t0,t1,t2,t3,-,-,-,-⟩:=ac j8;obtain ⟨y0,y1,y2,y3,f0,f1,f2,f3⟩:=ac hw;have kf:=hw.lt;have kg:=gl.lt;(have kj:L≠w8.heap.size:=by omega);go_wp2_with (at_builtin;refine wX rfl (.tmp 65) (.tmp 67) rfl (w.heap.size+2) w6.heap.size L (fun b=>X b∧b<w.heap.size) w8 (.slice A4 acc.length c4) acc n2 A7 c7 rfl _ rfl (by first | exact jy | rfl) ka (fun b hb=>by have:=hb.2;omega) (by omega) (by omega) jf (by omega) jx (by omega) ke ?_;intro g9 c9 w9 hO9 hB9 hL9;have ha:aj w9 L 24 #[.int .i64 mk,.string mt,.slice A4 acc.length c4,.int .i64 mp]:=Eq.trans hL9 hw;obtain ⟨z0,z1,z2,z3,h0,h1,h2,h3⟩:=ac ha);go_roundg (gk-1)
      case measure=>omega
      case rel=>
       have kt:=hB9.size;refine ⟨j+1,acc++[n2],some ⟨g9,0,none⟩,c9,rfl,by omega,by simp;omega,?_,?_,?_,?_,?_,fun h=>by simp at h,jj⟩
       ·rw [List.length_append];exact hO9.keep fun b _ hne _=>Below.heap_setCell w9 ⟨L,2,none⟩ _ b hne
       ·rw [List.length_append];simpa using ha.set_ 2 (.slice (some ⟨g9,0,none⟩) (acc.length+1) c9)
       ·exact (gl.below hB9 (by omega)).far (p:=⟨L,2,none⟩) (by show w.heap.size+1≠L;omega) _
       ·exact (gy.trans hB9).setCell (p:=⟨L,2,none⟩) jf _
       ·simp;omega
end
end Go.Proofs.YtiebcdeafofgdaaGreatDoor
