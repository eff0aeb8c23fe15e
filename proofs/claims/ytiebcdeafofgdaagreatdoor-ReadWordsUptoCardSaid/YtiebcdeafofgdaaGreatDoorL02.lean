/-
  Parts of the proof: Rrow Rfree Rslice Rkit Rtyp Rsig. By an AI agent.
-/
import Derived.Test.YtiebcdeafofgdaaGreatDoorL01
import Derived.Test.YtiebcdeafofgdaaGreatDoorL00
import Derived.Defers
import Derived.Recover
import Derived.IntWalk
import Derived.Deep.RegionHeld2
set_option maxRecDepth 100000
set_option maxHeartbeats 8000000
namespace Go.Proofs.YtiebcdeafofgdaaGreatDoor
section
open Go.RowKit Go.Lib Go.Proofs
attribute [local go_sem ↓] Go.wp_at_zero Go.wp_at_succ
def pg (E:cw) (w:World) (r:mI Nd) (e:Ending) (w':World):Prop:=
 match r with
 | .ok n s=>(∃ v,e=.returned v∧ai (fun b=>w.heap.size≤b) w' v n)∧aC E s w w'
 | .fail p=>e=aL p∧w.grownBy w' (some E.R)
 | .out=>False
def cy (X:Nat→Prop) (w:World) (v:Value) (l:List Nd):Prop:=
 ∃ A cap xs,v=.slice A l.length cap∧l.length≤cap∧dk X w 4 A l.length xs∧au X w l xs
def BK (E:cw) (w:World) (r:mI (List Nd)) (e:Ending) (w':World):Prop:=
 match r with
 | .ok l s=>(∃ v,e=.returned v∧cy (fun b=>w.heap.size≤b) w' v l)∧aC E s w w'
 | .fail p=>e=aL p∧w.grownBy w' (some E.R)
 | .out=>False
def iq (E:cw) (k:FuncId) (args:Array Value) (m:R Nd) (w0:World):Prop:=
 ∀ (w:World) (s:St),w0.grownBy w (some E.R)→aW E w s→m E.c s≠.out→Calls Tryz.prog k args w (pg E w (m E.c s))
theorem iq.grown {E:cw} {k:FuncId} {args:Array Value} {m:R Nd} {w0 w1:World} (h:iq E k args m w0) (D:w0.grownBy w1 (some E.R)):iq E k args m w1:=
 fun w s hw hr hm=>h w s (D.trans hw) hr hm
theorem ph:(Tryz.prog.info? 24).map (fun i=>(i.zero,i.size,i.bytes))=some (some (.agg #[.int .i64 0,.string ⟨#[]⟩,.slice none 0 0,.int .i64 0]),4,56):=by kernel_rfl
structure iT (B:Nat) (w:World) (v:Value) (l:List Nd):Prop where
 out:∃ xs,w.ownsRow B 24 4 v l.length xs∧au (fun b=>B≤b∧some b≠v.ownBlock) w l xs
theorem iT.nil (B:Nat) (w:World):iT B w (.slice none 0 0) []:=⟨[],World.ownsRow_nil _ _ _ _,au.nil⟩
theorem iT.keep {B:Nat} {w w':World} {v:Value} {l:List Nd} (h:iT B w v l) (J:∀ b,B≤b→b<w.heap.size→w'.heap[b]? = w.heap[b]?):iT B w' v l:=by
 obtain ⟨xs,M,N⟩:=h.out;refine ⟨xs,⟨M.1,?_⟩,N.keep fun b hb D=>J b hb.1 D⟩;rcases M.2 with O | ⟨g,cap,cur,e,K,I,r⟩
 ·exact .inl O
 ·refine .inr ⟨g,cap,cur,e,K,?_,r⟩;have D:g<w.heap.size:=by
   rcases Nat.lt_or_ge g w.heap.size with D | hge
   ·exact D
   ·rw [Array.getElem?_eq_none hge] at I;cases I
  exact (J g K D).trans I
theorem iT.grown {B R:Nat} {w w':World} {v:Value} {l:List Nd} (h:iT B w v l) (D:w.grownBy w' (some R)) (I:R<B):iT B w' v l:=
 h.keep fun b hb hlt=>D.block b hlt (fun e=>by injection e;omega)
theorem iT.values {B:Nat} {w:World} {v:Value} {l:List Nd} (h:iT B w v l):cy (fun b=>B≤b) w v l:=by
 obtain ⟨xs,D,J⟩:=h.out;rcases D.2 with ⟨rfl,q⟩ | ⟨g,cap,cur,rfl,U,O,I,_,M,K⟩
 ·exact ⟨none,0,xs,by rw [q],by omega,⟨D.1,fun h=>by omega⟩,J.mono fun b hb _=>hb.1⟩
 ·refine ⟨_,cap,xs,rfl,I,⟨D.1,fun _=>⟨g,0,rfl,U,fun j u hu=>?_⟩⟩,J.mono fun b hb _=>hb.1⟩;(have N:j<l.length * 4:=by have:=(List.getElem?_eq_some_iff.1 hu).1;rw [D.1] at this;exact this);rw [Nat.zero_add];unfold World.cell?;rw [O];simp only [Option.isSome_none,Bool.false_eq_true,if_false];rw [←K,List.getElem?_take_of_lt N] at hu;rw [←hu];simp
theorem iT.push {B S:Nat} {I K:World} {u v':Value} {l:List Nd} {n:Nd} {o:Obj} {cs:List Value} {xs:List Value}
  (U:au (fun b=>B≤b∧some b≠u.ownBlock) I l xs)
  (j:bK (fun b=>S≤b) I n cs) (hB:B≤S) (O:∀ g,u.ownBlock=some g→g<S)
  (J:K.ownsRow B 24 4 v' (l.length+1) (xs++cs)) (h:(I.alloc o).grownBy K u.ownBlock) (M:v'.ownBlock=u.ownBlock∨v'.ownBlock=some (I.alloc o).heap.size):iT B K v' (l++[n]):=by
 refine ⟨xs++cs,by rw [List.length_append];exact J,?_⟩;have h1:au (fun b=>B≤b∧some b≠u.ownBlock∧b<I.heap.size) I (l++[n]) (xs++cs):=
  (U.mono fun b hb D=>⟨hb.1,hb.2,D⟩).app (au.one (j.mono fun b hb D=>⟨Nat.le_trans hB hb,fun e=>by have:=O b e.symm;omega,D⟩))
 have q:=h1.keep (w':=K) fun b hb D=>(h.block b (by rw [World.size_alloc];omega) hb.2.1).trans (Below.heap_alloc I o b D);refine q.mono fun b hb _=>⟨hb.1,?_⟩;rcases M with e | e
 ·rw [e];exact hb.2.1
 ·rw [e,World.size_alloc];intro N;injection N with N;omega
theorem pi (n:Nd) (A:Option Addr) (cap:Nat):∀ u∈[Value.int .i64 n.kind,.string n.text,.slice A n.kids.length cap,.int .i64 n.pos],u.oneCell'=true:=by intro u D;simp only [List.mem_cons,List.not_mem_nil,or_false] at D;rcases D with rfl | rfl | rfl | rfl <;> rfl
theorem iT.lt {B:Nat} {w:World} {v:Value} {l:List Nd} (h:iT B w v l):∀ g,v.ownBlock=some g→B≤g∧g<w.heap.size:=by obtain ⟨xs,D,_⟩:=h.out;exact fun g hg=>D.lt g hg
structure BL (E:cw) (s:St) (B:Nat) (w w1 w2:World) (v':Value) (l:List Nd):Prop where
 own:iT B w2 v' l
 mov:aC E s w w2
 old:∀ b,b<w1.heap.size→(B≤b→False)→w2.heap[b]? = w1.heap[b]?
 le:w1.heap.size≤w2.heap.size
theorem Ek {o:Oper} {a:Act} {K:Act→World→Prop} {Q:Exit→Act→World→Prop} (s x:Operand)
  (ho:o.op=.call { callee:=.builtin .append,args:=#[s,x],argTypes:=#[22,22] })
  (E:cw) (st:St) (B S:Nat) (w D:World) (u:Value) (l:List Nd) (n:Nd) (A:Option Addr) (cap:Nat) (hs:a.eval s=u) (hx:a.eval x=.slice (some ⟨D.heap.size,0,none⟩) 1 1)
  (hO:iT B D u l) (I:aC E st w D) (gd:w.heap.size≤B) (hR:E.R<B) (hB:B≤S) (hS:S≤D.heap.size) (hu:∀ g,u.ownBlock=some g→g<S) (hl:l.length≤1000000)
  (hV:bK (fun b=>S≤b) D n [.int .i64 n.kind,.string n.text,.slice A n.kids.length cap,.int .i64 n.pos])
  (h:∀ g c w2,BL E st B w D w2 (.slice (some ⟨g,0,none⟩) (l.length+1) c) (l++[n])→K (a.put o.dst (.slice (some ⟨g,0,none⟩) (l.length+1) c)) w2) :
  o.wp Tryz.prog a (D.alloc (.cells (nv n A cap) 24)) K Q:=by
 obtain ⟨i0,hi,j,U,O⟩:=info_parts ph;obtain ⟨xs,M,ga⟩:=hO.out;refine wp_append_lies _ s x 22 ho B 24 i0 _ 4 56 Tryz.underlying22 hi j U O rfl (by omega) u l.length xs hs (M.alloc _) ⟨D.heap.size,0,none⟩ 1 1 [.int .i64 n.kind,.string n.text,.slice A n.kids.length cap,.int .i64 n.pos] hx rfl
  (World.news_of_block (cs:=(nv n A cap)) (heap_alloc_new _ _)) (pi n A cap) (by omega) (by unfold maxLen;omega) (by omega) (by rw [World.size_alloc];omega) _ rfl ?_
 intro g c w2 hown1 J gb _;have q:∀ g,u.ownBlock=some g→B≤g:=fun g J=>(hO.lt g J).1;have hold:∀ b,b<D.heap.size→(B≤b→False)→w2.heap[b]? = D.heap[b]? := fun b hb hBb=>(J.block b (by rw [World.size_alloc];omega) (fun e=>hBb (q b e.symm))).trans (Below.heap_alloc D _ b hb);have N:D.heap.size≤w2.heap.size:=Nat.le_trans (by rw [World.size_alloc];omega) J.size;refine h g c w2 ⟨iT.push ga hV hB hu hown1 J ?_,⟨I.rd.keep fun b hb=>?_,?_⟩,hold,N⟩
 ·rcases gb with e | e
  ·exact .inl (by rw [e];rfl)
  ·exact .inr (by rw [e];rfl)
 ·exact hold b (Nat.lt_of_le_of_lt hb I.rd.lt) (fun h2=>by omega)
 ·refine ⟨J.os.trans I.gr.os,J.tape.trans I.gr.tape,J.output.trans I.gr.output,Nat.le_trans I.gr.size N,fun k hk hne=>?_⟩;exact (hold k (Nat.lt_of_lt_of_le hk I.gr.size) (fun h2=>by omega)).trans (I.gr.block k hk hne)
theorem td {ops:Array Oper} {rest:List Oper} {o:Oper} {a:Act} {Q:Exit→Act→World→Prop} (J:o.guard=none) (s x:Operand)
  (N:o.op=.call { callee:=.builtin .append,args:=#[s,x],argTypes:=#[22,22] })
  (E:cw) (st:St) (B S:Nat) (w D:World) (u:Value) (l:List Nd) (n:Nd) (A:Option Addr) (cap:Nat) (hs:a.eval s=u) (K:a.eval x=.slice (some ⟨D.heap.size,0,none⟩) 1 1)
  (hO:iT B D u l) (O:aC E st w D) (I:w.heap.size≤B) (hR:E.R<B) (hB:B≤S) (q:S≤D.heap.size) (M:∀ g,u.ownBlock=some g→g<S) (U:l.length≤1000000)
  (j:bK (fun b=>S≤b) D n [.int .i64 n.kind,.string n.text,.slice A n.kids.length cap,.int .i64 n.pos])
  (h:∀ g c w2,BL E st B w D w2 (.slice (some ⟨g,0,none⟩) (l.length+1) c) (l++[n])→wpList Tryz.prog ops Q rest (a.put o.dst (.slice (some ⟨g,0,none⟩) (l.length+1) c)) w2) :
  wpList Tryz.prog ops Q (o::rest) a (D.alloc (.cells (nv n A cap) 24)):=
 wpList_plain J fun _ hK=>Ek s x N E st B S w D u l n A cap hs K hO O I hR hB q M U j fun g c w2 hp=>hK _ _ (h g c w2 hp)
theorem oS (E:cw) (k:FuncId) (first cap:Array Value) (part:R Nd) (en:ByteArray) (g:Nat) (s:St) (w:World) (h:aW E w s)
  (hk:∀ a w,(callFunc k a).run Tryz.prog w=.ok (.enter k a) w) (hp:iq E k (first++cap) part w) (gh:ci part en g [] E.c s≠.out) (gs:g≤1000000) :
  Calls Tryz.prog 127 #[.pointer (some ⟨E.R,0,none⟩),.string en,.func (.func k) first cap] w (BK E w (ci part en g [] E.c s)):=by
 generalize hres:ci part en g [] E.c s=res at *;have q:=hid hres;have HP:=hid hp;have gm:=hid gh;obtain ⟨i0,hi,gz,gy,gx⟩:=info_parts ph;clear hres hp gh;(go_enter Tryz.func127,Tryz.ntmps127);(go_wp2_with fail);go_loopg [7] g (fun g u7 wr=>∃ (acc:List Nd) (s':St),iT w.heap.size wr u7 acc∧acc.length+g≤1000000∧ci part en g acc E.c s'=res∧aC E s' w wr)
 case atStart=>exact ⟨[],s,iT.nil _ _,by simpa using gs,q.out,aC.refl h⟩
 case round=>
  obtain ⟨acc,O,U,gw,hr,hm⟩:=hrel;have HR:=hid hr;have HO:=hid U;clear hr U q;cases gk with
  | zero=>exact absurd HR.out.symm (by rw [ci];exact gm.out)
  | succ g1=>
   cases hA:cm E.c O en with
   | true=>have HF:=hid (show res=.ok acc (ba O) by rw [←HR.out,ci];simp only [hA,if_true]);(go_wp2_with fail);refine (dH E O en _ hm.rd hA).mono ?_;rintro e w1 ⟨rfl,D⟩;clear hA;(go_wp2_with fail);go_ret;rw [HF.out];exact ⟨⟨_,rfl,(HO.out.grown D.gr (h.lt)).values⟩,hm.trans D⟩
   | false=>
    have HE:=hid (show (part E.c O).bind (fun n s2=>if cm E.c s2 en then .ok (acc++[n]) (ba s2) else (mv (⟨#[44]⟩:BA) E.c s2).bind fun _ s3=>ci part en g1 (acc++[n]) E.c s3)=res by rw [←HR.out,ci];simp only [hA,Bool.false_eq_true,if_false]);clear HR;(go_wp2_with fail);refine (dB E O en _ hm.rd hA).mono ?_;rintro e w1 ⟨rfl,ga⟩;clear hA;have D:=hm.trans ga.moved;have ge:=hid (HO.out.grown ga.moved.gr h.lt);clear HO hm ga;(go_wp2_with fail);cases j:part E.c O with
    | out=>exact absurd HE.out.symm (by rw [j];exact gm.out)
    | fail p=>have HF:=hid (show res=.fail p by rw [←HE.out,j];rfl);refine (HP.out w1 O D.gr D.rd (by rw [j];exact nofun)).mono ?_;rw [j];rintro e w2 ⟨rfl,gq⟩;unfold aL;refine ⟨rfl,?_⟩;rw [HF.out];exact ⟨rfl,D.gr.trans gq⟩
    | ok n s2=>
     have N:=hid (show (if cm E.c s2 en then .ok (acc++[n]) (ba s2) else (mv (⟨#[44]⟩:BA) E.c s2).bind fun _ s3=>ci part en g1 (acc++[n]) E.c s3)=res by rw [←HE.out,j];rfl);refine (HP.out w1 O D.gr D.rd (by rw [j];exact nofun)).mono ?_;rw [j];rintro e w2 ⟨⟨v,rfl,hv⟩,M⟩;obtain ⟨A,cp,rfl,hC⟩:=hv.toC;have gp:=D.gr.size;have gj:=M.gr.size;have I:=h.lt;have HU:=hid (show ∀ g,u7.ownBlock=some g→g<w1.heap.size from fun g hg=>(ge.out.lt g hg).2);have gl:=hid (ge.out.grown M.gr I);have HC:=hid hC;have gn:=hid (D.trans M);(have gb:acc.length≤1000000:=by omega);clear j HE HP hv hC D M ge;go_wp2_with (at_builtin;refine td rfl (.tmp 12) (.tmp 15) rfl E s2 w.heap.size w1.heap.size w w2 u7 acc n A cp rfl rfl gl.out gn.out (Nat.le_refl _) I gp gj HU.out gb HC.out ?_;intro g3 c3 w3 hp3);have K:=hp3.mov;have gd:=hid hp3.own;clear hp3 gl gn HC HU;cases hB:cm E.c s2 en with
     | true=>have HF:=hid (show res=.ok (acc++[n]) (ba s2) by rw [←N.out];simp only [hB,if_true]);refine (dH E s2 en _ K.rd hB).mono ?_;rintro e w4 ⟨rfl,J⟩;clear hB N;(go_wp2_with fail);go_ret;rw [HF.out];exact ⟨⟨_,rfl,(gd.out.grown J.gr I).values⟩,K.trans J⟩
     | false=>
      have gg:=hid (show (mv (⟨#[44]⟩:BA) E.c s2).bind (fun _ s3=>ci part en g1 (acc++[n]) E.c s3)=res by rw [←N.out];simp only [hB,Bool.false_eq_true,if_false]);refine (dB E s2 en _ K.rd hB).mono ?_;rintro e w4 ⟨rfl,u⟩;have J:=K.trans u.moved;have gu:=hid (gd.out.grown u.moved.gr I);clear hB N gd u K;(go_wp2_with fail);cases hD:cm E.c s2 (⟨#[44]⟩:BA) with
      | true=>
       have gv:=hid (show ci part en g1 (acc++[n]) E.c (ba s2)=res by rw [←gg.out,mv];simp only [hD,if_true,mI.bind_ok]);refine (nb E s2 (⟨#[44]⟩:BA) _ J.rd hD).mono ?_;rintro e w5 ⟨rfl,gi⟩;clear hD gg;(go_wp2_with fail);go_roundg g1
       case measure=>omega
       case rel=>exact ⟨acc++[n],ba s2,gu.out.grown gi.gr I,by rw [List.length_append];simp;omega,gv.out,J.trans gi⟩
      | false=>have HF:=hid (show res=.fail (bz E.c s2) by rw [←gg.out,mv];simp only [hD,Bool.false_eq_true,if_false,mI.bind_fail]);refine (oQ E s2 (⟨#[44]⟩:BA) _ J.rd hD).mono ?_;rintro e w5 ⟨rfl,gt⟩;unfold aL;refine ⟨rfl,?_⟩;rw [HF.out];exact ⟨rfl,J.gr.trans (aP _ gt)⟩
structure aD (X:Nat→Prop) (w w':World):Prop where
 size:w.heap.size≤w'.heap.size
 block:∀ b,X b→b<w.heap.size→w'.heap[b]? = w.heap[b]?
section
variable {X:Nat→Prop} {w w' w'':World}
theorem aD.refl (X:Nat→Prop) (w:World):aD X w w:=⟨Nat.le_refl _,fun _ _ _=>rfl⟩
theorem aD.trans (h:aD X w w') (h':aD X w' w''):aD X w w'':=
 ⟨Nat.le_trans h.size h'.size,fun b hb hlt=>(h'.block b hb (Nat.lt_of_lt_of_le hlt h.size)).trans (h.block b hb hlt)⟩
theorem aD.alloc (h:aD X w w') (o:Obj):aD X w (w'.alloc o):=
 h.trans ⟨by rw [World.size_alloc];omega,fun b _ hlt=>Below.heap_alloc w' o b hlt⟩
theorem aD.drew (h:aD X w w'):aD X w w'.drew:=h.trans ⟨Nat.le_refl _,fun _ _ _=>rfl⟩
theorem aD.drewN (h:aD X w w') (n:Nat):aD X w (w'.drewN n):=h.trans ⟨(aN (Below.refl 0 _) n).size,fun b _ hlt=>(aN (Below.refl w'.heap.size w') n).block b hlt⟩
theorem aD.setCell (h:aD X w w') {p:Addr} (D:X p.block→False) (u:Value):aD X w (w'.setCell p u):=
 h.trans ⟨by simp [World.setCell],fun b hb _=>Below.heap_setCell w' p u b (fun e=>D (e▸hb))⟩
theorem aD.of_grown {r:Option Nat} (D:w.grownBy w' r) (I:∀ g,r=some g→X g→False:=by intro g e hX;injection e with e;(try dsimp only at hX);omega):aD X w w':=
 ⟨D.size,fun b hb hlt=>D.block b hlt (fun e=>I b e.symm hb)⟩
theorem aD.of_below {B:Nat} (D:Below B w w') (I:∀ b,X b→b<w.heap.size→b<B):aD X w w':=
 ⟨D.size,fun b hb hlt=>D.block b (I b hb hlt)⟩
theorem ai.kept {v:Value} {n:Nd} (h:ai X w v n) (D:aD X w w'):ai X w' v n:=h.keep D.block
theorem cy.kept {v:Value} {l:List Nd} (h:cy X w v l) (D:aD X w w'):cy X w' v l:=by obtain ⟨A,cap,xs,e,K,J,I⟩:=h;exact ⟨A,cap,xs,e,K,J.keep D.block,I.keep D.block⟩
theorem cy.mono {Y:Nat→Prop} {v:Value} {l:List Nd} (h:cy X w v l) (D:∀ b,X b→b<w.heap.size→Y b):cy Y w v l:=by obtain ⟨A,cap,xs,e,K,J,I⟩:=h;exact ⟨A,cap,xs,e,K,J.mono D (by omega),I.mono D⟩
theorem ac {g:Nat} {t:TypeId} {a b c d:Value} (h:ar w g t #[a,b,c,d]):w.cell? ⟨g,0,none⟩=some a∧w.cell? ⟨g,1,none⟩=some b∧w.cell? ⟨g,2,none⟩=some c∧w.cell? ⟨g,3,none⟩=some d ∧
  w.frozen? ⟨g,0,none⟩=false∧w.frozen? ⟨g,1,none⟩=false∧w.frozen? ⟨g,2,none⟩=false∧w.frozen? ⟨g,3,none⟩=false:=by have c0:=h.cell 0;have c1:=h.cell 1;have c2:=h.cell 2;have c3:=h.cell 3;simp at c0 c1 c2 c3;exact ⟨c0,c1,c2,c3,h.frozen 0,h.frozen 1,h.frozen 2,h.frozen 3⟩
end
def bZ:Array Value:=#[.int .i64 0,.string ⟨#[]⟩,.slice none 0 0,.int .i64 0]
theorem fQ {fn:Func} {q:Tmp} (I:fn.results = #[.cell q 24]) (tmps:Array Value) {w:World} {g:Nat} {a b c d:Value} (J:tmps.getD q undef=.pointer (some ⟨g,0,none⟩)) (hb:ar w g 24 #[a,b,c,d]) :
  (results fn tmps).run Tryz.prog w=.ok (.agg #[a,b,c,d]) w:=by obtain ⟨O,N,M,K,_,_,_,_⟩:=ac hb;unfold results;rw [I];(have D:tmps[q]?.getD undef=.pointer (some ⟨g,0,none⟩):=by simpa using J);simp [D,go_sem,O,N,M,K]
theorem BM (E:cw) (k:FuncId) (first cap:Array Value) (part:R Nd) (s:St) (w:World) (h:aW E w s)
  (hk:∀ a w,(callFunc k a).run Tryz.prog w=.ok (.enter k a) w) (hp:iq E k (first++cap) part w) (N:dY part E.c s≠.out) :
  Calls Tryz.prog 133 #[.pointer (some ⟨E.R,0,none⟩),.func (.func k) first cap] w (pg E w (dY part E.c s)):=by
 generalize hres:dY part E.c s=res at *;have D:=hid hres;have HP:=hid hp;have gb:=hid N;obtain ⟨c0,c1,c2,c3,c4,f0⟩:=h.cells;have f3:=f0 3;have O:=h.lt;have gd:=Nat.ne_of_lt O;clear hres hp N f0;(go_enter Tryz.func133,Tryz.ntmps133);(go_wp2_with fail);have I:aC E { s with head:=false } w ((w.setCell ⟨E.R,3,none⟩ (.bool false)).alloc (.cells bZ 24)):=((aC.refl h).setHead false).alloc _;(have ga:ar ((w.setCell ⟨E.R,3,none⟩ (.bool false)).alloc (.cells bZ 24)) w.heap.size 24 bZ:=by have:=ar.new (w.setCell ⟨E.R,3,none⟩ (.bool false)) 24 bZ;simpa [World.setCell] using this);cases K:part E.c { s with head:=false } with
 | out=>exact absurd D.out.symm (by rw [dY,K];exact gb.out)
 | fail p=>have HF:=hid (show res=.fail p by rw [←D.out,dY,K];rfl);refine (HP.out _ _ I.gr I.rd (by rw [K];exact nofun)).mono ?_;rw [K];rintro e w2 ⟨rfl,q⟩;unfold aL;refine ⟨rfl,?_⟩;rw [HF.out];exact ⟨rfl,I.gr.trans q⟩
 | ok n s1=>
  have HF:=hid (show res=.ok n { s1 with head:=s.head } by rw [←D.out,dY,K];rfl);refine (HP.out _ _ I.gr I.rd (by rw [K];exact nofun)).mono ?_;rw [K];rintro e w2 ⟨⟨v,rfl,hv⟩,J⟩;obtain ⟨A,cp,rfl,hC⟩:=hv.toC;have M:=ga.grown J.gr;obtain ⟨d0,d1,d2,d3,e0,e1,e2,e3⟩:=ac M;obtain ⟨x0,x1,x2,x3,x4,y0⟩:=J.rd.cells;have y3:=y0 3;have gg:=J.rd.lt;have ge:=M.lt;have U:=J.gr.size;have j:=I.trans J;simp only [World.size_alloc] at U;clear K D HP y0;(go_wp2_with fail);have u:=((((M.far (p:=⟨E.R,3,none⟩) (by show w.heap.size≠E.R;omega) (.bool s.head)).set_ 0 (.int .i64 n.kind)).set_ 1 (.string n.text)).set_ 2 (.slice A n.kids.length cp)).set_ 3 (.int .i64 n.pos) |>.alloc (.cells (nv n A cp) 24);refine bodyPost_ret (fQ rfl _ (by rfl) (by simpa [bZ] using u)) rfl ?_;rw [HF.out];refine ⟨⟨_,rfl,(hv.kept ?_).mono ?_⟩,?_⟩
  ·(repeat' (first | with_reducible exact aD.refl _ _ | with_reducible refine aD.alloc ?_ _ | with_reducible refine aD.setCell ?_ ?_ _ | with_reducible refine aD.drew ?_ | with_reducible refine aD.drewN ?_ _ | (intro hX;simp at hX;omega)))
  ·intro b hb _;simp at hb;omega
  ·have gh:=j.setHead s.head;(repeat' (first | with_reducible assumption | with_reducible refine aC.alloc ?_ _ | with_reducible refine aC.own ?_ ?_ ?_ _ | with_reducible refine aC.drew ?_ | with_reducible refine aC.drewN ?_ _ | (simp <;> omega) | omega))
def uP (E:cw) (k:FuncId) (args:Array Value) (m:R (List Nd)) (w0:World):Prop:=
 ∀ (w:World) (s:St),w0.grownBy w (some E.R)→aW E w s→m E.c s≠.out→Calls Tryz.prog k args w (BK E w (m E.c s))
theorem mi (E:cw) (k:FuncId) (first cap:Array Value) (part:R (List Nd)) (s:St) (w:World) (h:aW E w s)
  (hk:∀ a w,(callFunc k a).run Tryz.prog w=.ok (.enter k a) w) (hp:uP E k (first++cap) part w) (K:dY part E.c s≠.out) :
  Calls Tryz.prog 185 #[.pointer (some ⟨E.R,0,none⟩),.func (.func k) first cap] w (BK E w (dY part E.c s)):=by
 generalize hres:dY part E.c s=res at *;have I:=hid hres;have j:=hid hp;have q:=hid K;obtain ⟨c0,c1,c2,c3,c4,f0⟩:=h.cells;have f3:=f0 3;clear hres hp K f0;(go_enter Tryz.func185,Tryz.ntmps185);(go_wp2_with fail);have D:=(aC.refl h).setHead false;cases J:part E.c { s with head:=false } with
 | out=>exact absurd I.out.symm (by rw [dY,J];exact q.out)
 | fail p=>have u:=hid (show res=.fail p by rw [←I.out,dY,J];rfl);refine (j.out _ _ D.gr D.rd (by rw [J];exact nofun)).mono ?_;rw [J];rintro e w2 ⟨rfl,U⟩;unfold aL;refine ⟨rfl,?_⟩;rw [u.out];exact ⟨rfl,D.gr.trans U⟩
 | ok n s1=>
  have u:=hid (show res=.ok n { s1 with head:=s.head } by rw [←I.out,dY,J];rfl);refine (j.out _ _ D.gr D.rd (by rw [J];exact nofun)).mono ?_;rw [J];rintro e w2 ⟨⟨v,rfl,hv⟩,M⟩;obtain ⟨x0,x1,x2,x3,x4,y0⟩:=M.rd.cells;have y3:=y0 3;have O:=D.trans M;have ga:=h.lt;have N:=D.gr.size;clear J I j y0;(go_wp2_with fail);go_ret;rw [u.out];refine ⟨⟨_,rfl,(hv.kept ?_).mono ?_⟩,?_⟩
  ·(repeat' (first | with_reducible exact aD.refl _ _ | with_reducible refine aD.alloc ?_ _ | with_reducible refine aD.setCell ?_ ?_ _ | with_reducible refine aD.drew ?_ | with_reducible refine aD.drewN ?_ _ | (intro hX;simp at hX;omega)))
  ·intro b hb _;exact Nat.le_trans N hb
  ·exact O.setHead s.head
def IP (E:cw) (s:St) (b off:Nat) (k:Int) (x:ByteArray) (w:World):Prop:=
 w.cell? ⟨E.R,0,none⟩=some (.slice (some ⟨b,off,none⟩) E.c.toks.length E.cap)∧w.cell? ⟨E.R,1,none⟩=some (.int .i64 s.at_) ∧
 w.cell? ⟨b,off+(s.at_+1) * 3,none⟩=some (.int .i64 k)∧w.cell? ⟨b,off+(s.at_+1) * 3+1,none⟩=some (.string x)
theorem F8 {E:cw} {s:St} {w:World} (h:aW E w s) (D:s.at_+1<E.c.toks.length):∃ b off,∀ w',aW E w' s→IP E s b off (aE E.c (s.at_+1)).kind (aE E.c (s.at_+1)).text w':=by obtain ⟨b,off,eA,hb,U,O,N⟩:=h.tok _ D;refine ⟨b,off,fun w' h'=>?_⟩;obtain ⟨c0,c1,_,_,_,_⟩:=h'.cells;obtain ⟨b',off',eA',M,J,I,K⟩:=h'.tok _ D;rw [eA] at eA' c0;injection eA' with e;injection e with e1 e2;subst e1 e2;exact ⟨c0,c1,J,I⟩
theorem rD (E:cw) (s:St) (w:World) (h:aW E w s):Calls Tryz.prog 126 #[.pointer (some ⟨E.R,0,none⟩)] w fun e w'=>e=.returned (.bool (fa E.c s))∧ct E s w w':=by
 have K:=hid (fun w' (h:aW E w' s)=>da E s (⟨#[91]⟩:BA) w' h);have N:=h.most;have J:=ct.refl h;by_cases D:cm E.c s (⟨#[91]⟩:BA)=true
 ·have O:=pf h D;by_cases I:s.at_+1<E.c.toks.length
  ·obtain ⟨b,off,U⟩:=F8 h I;have M:=hid U;(have hs:fa E.c s=((aE E.c (s.at_+1)).kind==6&&((aE E.c (s.at_+1)).text.toList==(⟨#[93]⟩:BA).toList)):=by unfold fa;rw [D,List.getElem?_eq_getElem I,cU];unfold aE;rw [List.getElem?_eq_getElem I];rfl);rw [hs];(have g1:decide ((s.at_:Int)+1<(E.c.toks.length:Int))=true:=by simp;omega);(have g2:(0:Int)≤(s.at_:Int)+1:=by omega);(have g3:(s.at_:Int)+1<(E.c.toks.length:Int):=by omega);have g4:IntKind.i64.wrap ((s.at_:Int)+1)=(s.at_:Int)+1:=IntWalk.i64_in _ (by omega);(have g5:((s.at_:Int)+1).toNat=s.at_+1:=by omega);rw [D] at K;clear hs U D;generalize aE E.c (s.at_+1)=t at *;obtain ⟨tk,tt,tp⟩:=t;simp only at *;have u:∀ n:Wd (ct E s w),n.wd.cell? ⟨E.R,0,none⟩=some (.slice (some ⟨b,off,none⟩) E.c.toks.length E.cap):=fun n=>(M.out _ n.ok.rd).1;have q:∀ n:Wd (ct E s w),n.wd.cell? ⟨E.R,1,none⟩=some (.int .i64 s.at_):=fun n=>(M.out _ n.ok.rd).2.1;have k2:∀ n:Wd (ct E s w),n.wd.cell? ⟨b,off+(s.at_+1) * 3,none⟩=some (.int .i64 tk):=fun n=>(M.out _ n.ok.rd).2.2.1;have k3:∀ n:Wd (ct E s w),n.wd.cell? ⟨b,off+(s.at_+1) * 3+1,none⟩=some (.string tt):=fun n=>(M.out _ n.ok.rd).2.2.2;(have j:(⟨#[93]⟩:BA).toList=[93]:=by decide +kernel);rw [j];cases h1:(tk==6) <;> cases h2:(tt.toList==[93]);all_goals
    (go_enter Tryz.func126,Tryz.ntmps126);(go_wp2_with fail);haveI:Nonempty (Wd (ct E s w)):=⟨⟨w,J⟩⟩
    refine ex (ct E s w) (by kernel_rfl) (by kernel_rfl) J.drew ?_;(repeat (go_big_quiet_step ((go_at_call 42;rename_i n;refine (K.out _ n.ok.rd).mono ?_;rintro e w' ⟨rfl,hb⟩;exact ⟨rfl,⟨w',n.ok.step hb⟩,rfl⟩))));refine wpQuiet_nil ?_;intro n;(go_wp2_with fail);go_ret;exact ⟨rfl,n.ok⟩
  ·(have hs:fa E.c s=false:=by unfold fa;rw [D,List.getElem?_eq_none (by omega)];rfl);rw [hs];(have g1:decide ((s.at_:Int)+1<(E.c.toks.length:Int))=false:=by simp;omega);have g4:IntKind.i64.wrap ((s.at_:Int)+1)=(s.at_:Int)+1:=IntWalk.i64_in _ (by omega);have u:∀ n:Wd (ct E s w),n.wd.cell? ⟨E.R,0,none⟩=some (.slice E.A E.c.toks.length E.cap):=fun n=>n.ok.rd.cells.1;have q:∀ n:Wd (ct E s w),n.wd.cell? ⟨E.R,1,none⟩=some (.int .i64 s.at_):=fun n=>n.ok.rd.cells.2.1;rw [D] at K;clear hs D
   ·(go_enter Tryz.func126,Tryz.ntmps126);(go_wp2_with fail);haveI:Nonempty (Wd (ct E s w)):=⟨⟨w,J⟩⟩
    refine ex (ct E s w) (by kernel_rfl) (by kernel_rfl) J.drew ?_;(repeat (go_big_quiet_step ((go_at_call 42;rename_i n;refine (K.out _ n.ok.rd).mono ?_;rintro e w' ⟨rfl,hb⟩;exact ⟨rfl,⟨w',n.ok.step hb⟩,rfl⟩))));refine wpQuiet_nil ?_;intro n;(go_wp2_with fail);go_ret;exact ⟨rfl,n.ok⟩
 ·(have hs:fa E.c s=false:=by unfold fa;simp [D]);rw [hs];rw [show cm E.c s (⟨#[91]⟩:BA)=false by simpa using D] at K;clear hs D
  ·go_enter Tryz.func126,Tryz.ntmps126
   ·(go_wp2_with fail);haveI:Nonempty (Wd (ct E s w)):=⟨⟨w,J⟩⟩
    refine ex (ct E s w) (by kernel_rfl) (by kernel_rfl) J.drew ?_;(repeat (go_big_quiet_step ((go_at_call 42;rename_i n;refine (K.out _ n.ok.rd).mono ?_;rintro e w' ⟨rfl,hb⟩;exact ⟨rfl,⟨w',n.ok.step hb⟩,rfl⟩))));refine wpQuiet_nil ?_;intro n;(go_wp2_with fail);go_ret;exact ⟨rfl,n.ok⟩
end
section
open Go.RowKit Go.Lib Go.Proofs
def ei (E:cw) (m:R Nd) (f:FuncId):Prop:=
 ∀ (w:World) (s:St),aW E w s→m E.c s≠.out→Calls Tryz.prog f #[.pointer (some ⟨E.R,0,none⟩)] w (pg E w (m E.c s))
structure te (E:cw) (F:oM):Prop where
 typ:ei E F.typ 131
 expr:ei E F.expr 41
 unary:ei E F.unary 92
 stmt:ei E F.stmt 135
 g:F.g≤1000000
theorem ei.part {E:cw} {m:R Nd} {f:FuncId} (h:ei E m f) (w0:World):iq E f #[.pointer (some ⟨E.R,0,none⟩)] m w0:=fun w s _ hr hm=>h w s hr hm
theorem ai.make {X:Nat→Prop} {wj w2:World} {l:List Nd} {xs:List Value} (k:Nat) (K:l.length=k) (J:au X wj l xs) (kind:Int) (t:ByteArray) (pos:Int)
  (hb:Below (wj.alloc (.cells xs.toArray 24)).heap.size (wj.alloc (.cells xs.toArray 24)) w2) :
  ai (fun b=>(X b∧b<wj.heap.size)∨b=wj.heap.size) w2 (.agg #[.int .i64 kind,.string t,.slice (some ⟨wj.heap.size,0,none⟩) k k,.int .i64 pos]) (.mk kind t l pos):=by
 subst K;have I:ar w2 wj.heap.size 24 xs.toArray:=(ar.new wj 24 xs.toArray).below hb (by simp);refine ⟨some ⟨wj.heap.size,0,none⟩,l.length,xs,rfl,Nat.le_refl _,⟨J.len,fun _=>⟨wj.heap.size,0,rfl,.inr rfl,fun j u hu=>?_⟩⟩,?_⟩
 ·have:=I.cell (0+j);rw [this,Nat.zero_add];simpa using hu
 ·refine ((J.mono (Y:=fun b=>X b∧b<wj.heap.size) fun b hb D=>⟨hb,D⟩).keep (w':=w2) fun b hx D=>?_).mono fun b hb _=>.inl hb;exact (hb.block b (by simp;omega)).trans (Below.heap_alloc wj _ b D)
theorem ai.leaf {X:Nat→Prop} {w:World} (kind:Int) (t:ByteArray) (pos:Int):ai X w (.agg #[.int .i64 kind,.string t,.slice none 0 0,.int .i64 pos]) (.mk kind t [] pos):=
 ⟨none,0,[],rfl,Nat.le_refl _,⟨rfl,fun h=>absurd h (by simp)⟩,au.nil⟩
theorem ai.of_slice {X:Nat→Prop} {w:World} {v:Value} {l:List Nd} (h:cy X w v l) (kind:Int) (t:ByteArray) (pos:Int):ai X w (.agg #[.int .i64 kind,.string t,v,.int .i64 pos]) (.mk kind t l pos):=by obtain ⟨A,cap,xs,rfl,J,I,D⟩:=h;exact ⟨A,cap,xs,rfl,J,I,D⟩
theorem cell_kept {w w':World} (hb:Below w.heap.size w w') {a:Addr} {v:Value} (D:w.cell? a=some v):w'.cell? a=some v:=(hb.cell (World.block_lt_of_cell? w a D)).trans D
abbrev iU (a0 a1 a2 a3 a4:Addr) (v0 v1 v2 v3 v4:Value) (w:World):Prop:=w.cell? a0=some v0∧w.cell? a1=some v1∧w.cell? a2=some v2∧w.cell? a3=some v3∧w.cell? a4=some v4
section
variable {a0 a1 a2 a3 a4:Addr} {v0 v1 v2 v3 v4:Value} {w w':World}
theorem iU.below (h:iU a0 a1 a2 a3 a4 v0 v1 v2 v3 v4 w) (hb:Below w.heap.size w w'):iU a0 a1 a2 a3 a4 v0 v1 v2 v3 v4 w':=
 ⟨cell_kept hb h.1,cell_kept hb h.2.1,cell_kept hb h.2.2.1,cell_kept hb h.2.2.2.1,cell_kept hb h.2.2.2.2⟩
theorem iU.drew (h:iU a0 a1 a2 a3 a4 v0 v1 v2 v3 v4 w):iU a0 a1 a2 a3 a4 v0 v1 v2 v3 v4 w.drew:=h.below (Below.refl _ _).drew
theorem iU.alloc (h:iU a0 a1 a2 a3 a4 v0 v1 v2 v3 v4 w) (o:Obj):iU a0 a1 a2 a3 a4 v0 v1 v2 v3 v4 (w.alloc o):=h.below ((Below.refl _ _).alloc (Nat.le_refl _) o)
theorem iU.far (h:iU a0 a1 a2 a3 a4 v0 v1 v2 v3 v4 w) {p:Addr} (u:Value) (M:a0.block≠p.block) (K:a1.block≠p.block) (J:a2.block≠p.block) (I:a3.block≠p.block) (D:a4.block≠p.block):iU a0 a1 a2 a3 a4 v0 v1 v2 v3 v4 (w.setCell p u):=
 have k:∀ (a:Addr) (v:Value),w.cell? a=some v→a.block≠p.block→(w.setCell p u).cell? a=some v:=fun a _ hc hn=>(World.cell?_of_block (Below.heap_setCell w p u a.block hn)).trans hc
 ⟨k _ _ h.1 M,k _ _ h.2.1 K,k _ _ h.2.2.1 J,k _ _ h.2.2.2.1 I,k _ _ h.2.2.2.2 D⟩
theorem iU.put (h:iU a0 a1 a2 a3 a4 v0 v1 v2 v3 v4 w) (g:Nat) (M:a0.block≠g) (K:a1.block≠g) (J:a2.block≠g) (I:a3.block≠g) (D:a4.block≠g) (a b c d:Value) :
  iU a0 a1 a2 a3 a4 v0 v1 v2 v3 v4 ((((w.setCell ⟨g,0,none⟩ a).setCell ⟨g,1,none⟩ b).setCell ⟨g,2,none⟩ c).setCell ⟨g,3,none⟩ d):=
 (((h.far (p:=⟨g,0,none⟩) a M K J I D).far (p:=⟨g,1,none⟩) b M K J I D).far (p:=⟨g,2,none⟩) c M K J I D).far (p:=⟨g,3,none⟩) d M K J I D
theorem iU.grown {R:Nat} (h:iU a0 a1 a2 a3 a4 v0 v1 v2 v3 v4 w) (D:w.grownBy w' (some R)) (N:a0.block≠R) (M:a1.block≠R) (K:a2.block≠R) (J:a3.block≠R) (I:a4.block≠R):iU a0 a1 a2 a3 a4 v0 v1 v2 v3 v4 w':=
 have k:∀ (a:Addr) (v:Value),w.cell? a=some v→a.block≠R→w'.cell? a=some v:=fun a _ hc hn=>
  (World.cell?_of_block (D.block a.block (World.block_lt_of_cell? w a hc) (fun e=>hn (by injection e)))).trans hc
 ⟨k _ _ h.1 N,k _ _ h.2.1 M,k _ _ h.2.2.1 K,k _ _ h.2.2.2.1 J,k _ _ h.2.2.2.2 I⟩
end
def bJ (w:World) (g:Nat) (a b c d:Value):World:=(((w.setCell ⟨g,0,none⟩ a).setCell ⟨g,1,none⟩ b).setCell ⟨g,2,none⟩ c).setCell ⟨g,3,none⟩ d
theorem bU {w:World} {g:Nat} {z0 z1 z2 z3:Value} (h:ar w g 24 #[z0,z1,z2,z3]) (a b c d:Value):ar (bJ w g a b c d) g 24 #[a,b,c,d]:=by unfold bJ;have:=(((h.set_ 0 a).set_ 1 b).set_ 2 c).set_ 3 d;simpa using this
theorem fb {E:cw} {s:St} {w wk:World} {g:Nat} (h:aC E s w wk) (D:w.heap.size≤g) (I:E.R<g) (a b c d:Value):aC E s w (bJ wk g a b c d):=
 (((h.own (p:=⟨g,0,none⟩) D I a).own (p:=⟨g,1,none⟩) D I b).own (p:=⟨g,2,none⟩) D I c).own (p:=⟨g,3,none⟩) D I d
theorem dm {X:Nat→Prop} {wk:World} {g:Nat} (D:∀ b,X b→b≠g) (a b c d:Value):aD X wk (bJ wk g a b c d):=
 ((((aD.refl X wk).setCell (p:=⟨g,0,none⟩) (fun h=>D g h rfl) a).setCell (p:=⟨g,1,none⟩) (fun h=>D g h rfl) b).setCell (p:=⟨g,2,none⟩) (fun h=>D g h rfl) c).setCell (p:=⟨g,3,none⟩) (fun h=>D g h rfl) d
theorem a6 {E:cw} {w wk:World} {res:mI Nd} {n:Nd} {s:St} {X:Nat→Prop} {a0 a1 a2 a3 z0 z1 z2 z3:Value} {g q:Nat} {fn:Func} {a:Act} (M:res=.ok n s)
  (J:ai X wk (.agg #[a0,a1,a2,a3]) n) (N:aC E s w wk) (hb:ar wk g 24 #[z0,z1,z2,z3]) (O:w.heap.size≤g) (U:E.R<g) (I:∀ b,X b→w.heap.size≤b∧b≠g)
  (D:fn.results = #[.cell q 24]) (K:a.tmps.getD q undef=.pointer (some ⟨g,0,none⟩)) (hd:a.defers=[]) :
  bodyPost Tryz.prog fn (pg E w res) .ret a (bJ wk g a0 a1 a2 a3):=by refine bodyPost_ret (fQ D _ K (bU hb a0 a1 a2 a3)) hd ?_;rw [M];exact ⟨⟨_,rfl,(J.kept (dm (fun b hb=>(I b hb).2) _ _ _ _)).mono fun b hb _=>(I b hb).1⟩,fb N O U _ _ _ _⟩
theorem aK {E:cw} {w w1 w2:World} {res:mI Nd} {p:Int} (D:res=.fail p) (J:w.grownBy w1 (some E.R)) (I:w1.grownBy w2 (some E.R)):pg E w res (aL p) w2:=by rw [D];exact ⟨rfl,J.trans I⟩
end
section
open Go.RowKit Go.Lib Go.Proofs
attribute [local go_sem ↓] Go.wp_at_zero Go.wp_at_succ
attribute [local go_sem] bg bh bi bC bD bE bF
theorem tf (E:cw) (F:oM) (hF:te E F) (B:Nat) (w0:World) (hB:ar w0 B 52 #[.pointer (some ⟨E.R,0,none⟩)]) (j:B≠E.R) :
  iq E 130 #[.pointer (some ⟨B,0,none⟩)] (eO F) w0:=by
 intro w s hw h hno;generalize hres:eO F E.c s=res at *;have D:=hid hres;have gm:=hid hno;have U:=hB.grown hw (fun e=>j (by injection e));have b0:=U.cell 0;have gp:=U.lt;have u:=h.lt;simp at b0;clear hres hno hB hw;(go_enter Tryz.func130,Tryz.ntmps130);(go_wp2_with fail);refine (cr E s _ (h.alloc _)).mono ?_;unfold iA;rintro e w1 ⟨rfl,M⟩;have J:=((ct.refl h).alloc _).step M;have O:=(ar.new w 24 bZ).below M (by simp);have ge:=(U.alloc _).below M (by simp;omega);have b1:=ge.cell 0;simp at b1;clear M;(go_wp2_with fail);by_cases hK:(aE E.c s.at_).kind=1
 ·have HK:=hid hK;refine (nd E s w1 J.rd hK).mono ?_;rintro e w2 ⟨rfl,I⟩;have gd:=O.grown I.gr;have b2:=(ge.grown I.gr (fun e=>j (by injection e))).cell 0;simp at b2;have gj:=O.lt;clear hK;(go_wp2_with fail);cases N:F.typ E.c (ba s) with
  | out=>exact absurd D.out.symm (by rw [eO,fw,if_pos HK.out,mI.bind_ok,N];exact gm.out)
  | fail p=>refine (hF.typ w2 (ba s) I.rd (by rw [N];exact nofun)).mono ?_;rw [N];rintro e w3 ⟨rfl,gk⟩;unfold aL;exact ⟨rfl,aK (by rw [←D.out,eO,fw,if_pos HK.out,mI.bind_ok,N];rfl) (J.moved.trans I).gr gk⟩
  | ok n s1=>have HF:=hid (show res=.ok (.mk 8 (aE E.c s.at_).text [n] (bz E.c s)) s1 by rw [←D.out,eO,fw,if_pos HK.out,mI.bind_ok,N];rfl);refine (hF.typ w2 (ba s) I.rd (by rw [N];exact nofun)).mono ?_;rw [N];rintro e w3 ⟨⟨v,rfl,hv⟩,q⟩;obtain ⟨A,cp,rfl,hC⟩:=hv.toC;have gb:=gd.grown q.gr;have gn:=O.lt;have gi:=gd.lt;have gh:=gb.lt;have gq:=I.gr.size;clear N D HK;(go_wp2_with fail);refine (cc _ _ _ _ _ ⟨_,_,_,rfl⟩).mono ?_;rintro e w4 ⟨rfl,K⟩;have hV:=ai.make 1 rfl (au.one hC) 8 (aE E.c s.at_).text (bz E.c s) K;have ga:=(gb.alloc _).below K (by simp;omega);have gg:=((J.moved.trans (I.trans q)).alloc _).step K;obtain ⟨d0,d1,d2,d3,e0,e1,e2,e3⟩:=ac ga;clear K;(go_wp2_with fail);refine a6 HF.out hV gg ga (Nat.le_refl _) u ?_ rfl (by rfl) rfl;rintro b (⟨hb,_⟩ | rfl) <;> constructor <;> omega
 ·refine (oR E s w1 J.rd hK).mono ?_;rintro e w2 ⟨rfl,gl⟩;unfold aL;exact ⟨rfl,aK (by rw [←D.out,eO,fw,if_neg hK];rfl) J.moved.gr (aP _ gl)⟩
theorem pj (E:cw) (F:oM) (hF:te E F):ei E (fm F) 132:=by
 intro w s h hno;generalize hres:fm F E.c s=res at *;have D:=hid hres;have u:=hid hno;have K:=h.lt;clear hres hno;(go_enter Tryz.func132,Tryz.ntmps132);(go_wp2_with fail);refine (Af E s _ (h.alloc _)).mono ?_;rintro e w1 ⟨rfl,N⟩;have I:=((ct.refl h).alloc _).step N.bel;have J:=(ar.new w 24 bZ).below N.bel (by simp);have ga:=J.lt;clear N;cases j:sk E.c s with
 | false=>have HF:=hid (show res=.ok eG s by rw [←D.out,fm,j];rfl);obtain ⟨d0,d1,d2,d3,e0,e1,e2,e3⟩:=ac J;(go_wp2_with fail);refine a6 (X:=fun _=>False) HF.out ai.zero I.moved J (Nat.le_refl _) K ?_ rfl (by rfl) rfl;exact fun _ h=>h.elim
 | true=>
  (go_wp2_with fail);cases M:F.typ E.c s with
  | out=>exact absurd D.out.symm (by rw [fm,j,if_pos rfl,M];exact u.out)
  | fail p=>refine (hF.typ w1 s I.rd (by rw [M];exact nofun)).mono ?_;rw [M];rintro e w2 ⟨rfl,q⟩;unfold aL;exact ⟨rfl,aK (by rw [←D.out,fm,j,if_pos rfl,M]) I.moved.gr q⟩
  | ok n s1=>have HF:=hid (show res=.ok n s1 by rw [←D.out,fm,j,if_pos rfl,M]);refine (hF.typ w1 s I.rd (by rw [M];exact nofun)).mono ?_;rw [M];rintro e w2 ⟨⟨v,rfl,hv⟩,O⟩;obtain ⟨A,cp,rfl,hC⟩:=hv.toC;have U:=J.grown O.gr;obtain ⟨d0,d1,d2,d3,e0,e1,e2,e3⟩:=ac U;clear M D;(go_wp2_with fail);refine a6 HF.out hv (I.moved.trans O) U (Nat.le_refl _) K ?_ rfl (by rfl) rfl;intro b hb;constructor <;> omega
theorem rE (a:Array Value) (w:World):(callFunc 130 a).run Tryz.prog w=.ok (.enter 130 a) w:=by kernel_rfl
theorem mB (E:cw) (F:oM) (hF:te E F) (p:Int) (w:World) (s:St) (h:aW E w s) (gy:rj F p E.c s≠.out) :
  Calls Tryz.prog 87 #[.pointer (some ⟨E.R,0,none⟩),.int .i64 p] w (pg E w (rj F p E.c s)):=by
 generalize hres:rj F p E.c s=res at *;have ga:=hid hres;have hi:=hid gy;have h1:=h.lt;clear hres gy;(go_enter Tryz.func87,Tryz.ntmps87);(go_wp2_with fail);have hh:ar ((w.alloc (.cells #[.pointer (some ⟨E.R,0,none⟩)] 52)).alloc (.cells bZ 24)) w.heap.size 52 #[.pointer (some ⟨E.R,0,none⟩)]:=(ar.new w _ _).alloc _;(have he:ar ((w.alloc (.cells #[.pointer (some ⟨E.R,0,none⟩)] 52)).alloc (.cells bZ 24)) (w.heap.size+1) 24 bZ:=by have:=ar.new (w.alloc (.cells #[.pointer (some ⟨E.R,0,none⟩)] 52)) 24 bZ;simpa using this);refine (cr E s _ ((h.alloc _).alloc _)).mono ?_;unfold iA;rintro e w1 ⟨rfl,gh⟩;have gd:=(((ct.refl h).alloc _).alloc _).step gh;have gu:=he.below gh (by simp);have gl:=hh.below gh (by simp;omega);have b1:=gl.cell 0;simp at b1;clear gh he hh;(go_wp2_with fail);cases hA:cm E.c s (⟨#[40]⟩:BA) with
 | false=>refine (oQ E s _ w1 gd.rd hA).mono ?_;rintro e w2 ⟨rfl,hu⟩;unfold aL;exact ⟨rfl,aK (by rw [←ga.out,rj,mv];simp [hA]) gd.moved.gr (aP _ hu)⟩
 | true=>
  have gm:=hid (show ((ci (eO F) (⟨#[41]⟩:BA) F.g [] E.c (ba s)).bind fun l s2=>(fm F E.c s2).bind fun r s3=>.ok (.mk 12 (⟨#[]⟩:BA) [.mk 6 (⟨#[]⟩:BA) l (bz E.c s),r] p) s3)=res by rw [←ga.out,rj,mv];simp only [hA,if_true,mI.bind_ok]);refine (nb E s _ w1 gd.rd hA).mono ?_;rintro e w2 ⟨rfl,j⟩;have hc:=gu.grown j.gr;have hg:=gl.grown j.gr;have gn:=gd.moved.trans j;have h4:=gl.lt;have h3:=gu.lt;have jb:=j.gr.size;clear ga hA j gu gl b1;(go_wp2_with fail);refine (cc _ _ _ _ _ ⟨_,_,_,rfl⟩).mono ?_;rintro e D ⟨rfl,u⟩;have g4:=gn.step u;have gt:=hc.below u (by omega);have gk:=hg.below u (by omega);have b3:=gk.cell 0;simp at b3;have ja:=u.size;have hp:=gt.lt;have gq:=gk.lt;have hn:=Nat.ne_of_lt gq;clear u hc hg gn;(go_wp2_with fail);have U:=g4.alloc (.cells #[.int .i64 6,.string (⟨#[]⟩:BA),.slice none 0 0,.int .i64 (bz E.c s)] 24);have gj:=gk.alloc (.cells #[.int .i64 6,.string (⟨#[]⟩:BA),.slice none 0 0,.int .i64 (bz E.c s)] 24);have ha:=gt.alloc (.cells #[.int .i64 6,.string (⟨#[]⟩:BA),.slice none 0 0,.int .i64 (bz E.c s)] 24);have g6:=ar.new D 24 #[.int .i64 6,.string (⟨#[]⟩:BA),.slice none 0 0,.int .i64 (bz E.c s)];(have h8:(D.alloc (.cells #[.int .i64 6,.string (⟨#[]⟩:BA),.slice none 0 0,.int .i64 (bz E.c s)] 24)).heap.size=D.heap.size+1:=by simp);(have N:w.heap.size≠E.R:=by omega);clear g4 gk gt;cases hR:ci (eO F) (⟨#[41]⟩:BA) F.g [] E.c (ba s) with
  | out=>exact absurd gm.out.symm (by rw [hR];exact hi.out)
  | fail q=>refine (oS E 130 #[] #[.pointer (some ⟨w.heap.size,0,none⟩)] (eO F) (⟨#[41]⟩:BA) F.g (ba s) _ U.rd rE (tf E F hF w.heap.size _ gj N) (by rw [hR];exact nofun) hF.g).mono ?_;rw [hR];rintro e w5 ⟨rfl,ht⟩;unfold aL;exact ⟨rfl,aK (by rw [←gm.out,hR];rfl) U.gr ht⟩
  | ok l s2=>
   have gb:=hid (show (fm F E.c s2).bind (fun r s3=>.ok (.mk 12 (⟨#[]⟩:BA) [.mk 6 (⟨#[]⟩:BA) l (bz E.c s),r] p) s3)=res by rw [←gm.out,hR];rfl);refine (oS E 130 #[] #[.pointer (some ⟨w.heap.size,0,none⟩)] (eO F) (⟨#[41]⟩:BA) F.g (ba s) _ U.rd rE (tf E F hF w.heap.size _ gj N) (by rw [hR];exact nofun) hF.g).mono ?_;rw [hR];rintro e w5 ⟨⟨v,rfl,hv⟩,O⟩;obtain ⟨A,cp,xs,rfl,gx,gw,gv⟩:=hv;have gi:=g6.grown O.gr;have g9:=ha.grown O.gr;have hf:=gj.grown O.gr;obtain ⟨l0,l1,l2,l3,f0,f1,f2,f3⟩:=ac gi;have h2:=gi.lt;clear hR gm g6 ha gj;(go_wp2_with fail);(have g5:ar (w5.setCell ⟨D.heap.size,2,none⟩ (.slice A l.length cp)) D.heap.size 24 #[.int .i64 6,.string (⟨#[]⟩:BA),.slice A l.length cp,.int .i64 (bz E.c s)]:=by simpa using gi.set_ 2 (.slice A l.length cp));have g8:=g9.far (p:=⟨D.heap.size,2,none⟩) (by show w.heap.size+1≠D.heap.size;omega) (.slice A l.length cp);have hy:=hf.far (p:=⟨D.heap.size,2,none⟩) (by show w.heap.size≠D.heap.size;omega) (.slice A l.length cp);have ge:=(U.trans O).own (p:=⟨D.heap.size,2,none⟩) (by show w.heap.size≤D.heap.size;omega) (by show E.R<D.heap.size;omega) (.slice A l.length cp);(have hl:cy (fun b=>D.heap.size+1≤b) (w5.setCell ⟨D.heap.size,2,none⟩ (.slice A l.length cp)) (.slice A l.length cp) l:=by have hk:aD (fun b=>D.heap.size+1≤b) w5 (w5.setCell ⟨D.heap.size,2,none⟩ (.slice A l.length cp)):=(aD.refl _ _).setCell (fun h=>by simp at h;omega) _;have hm:cy (fun b=>D.heap.size+1≤b) w5 (.slice A l.length cp) l:=⟨A,cp,xs,rfl,gx,by simpa using gw,by simpa using gv⟩;exact hm.kept hk);(have h6:w5.heap.size≤(w5.setCell ⟨D.heap.size,2,none⟩ (.slice A l.length cp)).heap.size:=by simp);clear gi g9 hf O U l0 l1 l2 l3 f0 f1 f2 f3 gx gw gv;generalize w5.setCell ⟨D.heap.size,2,none⟩ (.slice A l.length cp)=w6 at *;obtain ⟨l0,l1,l2,l3,f0,f1,f2,f3⟩:=ac g5;have b6:=hy.cell 0;simp at b6;have gp:=g5.lt;have h0:=Nat.ne_of_lt gp;(have I:E.R≠D.heap.size:=by omega);cases hP:fm F E.c s2 with
   | out=>exact absurd gb.out.symm (by rw [hP];exact hi.out)
   | fail q=>have HC:=hid (fun W (hr:aW E W s2)=>pj E F hF W s2 hr (by rw [hP];exact nofun));have HF:=hid (show res=.fail q by rw [←gb.out,hP];rfl);rw [hP] at HC;clear gb hP;have s6:iU ⟨D.heap.size,0,none⟩ ⟨D.heap.size,1,none⟩ ⟨D.heap.size,2,none⟩ ⟨D.heap.size,3,none⟩ ⟨w.heap.size,0,none⟩ (.int .i64 6) (.string (⟨#[]⟩:BA)) (.slice A l.length cp) (.int .i64 (bz E.c s)) (.pointer (some ⟨E.R,0,none⟩)) w6:=⟨l0,l1,l2,l3,b6⟩;let SS:World→Prop:=fun w'=>w'.cell? ⟨D.heap.size,0,none⟩=some (.int .i64 6)∧w'.cell? ⟨D.heap.size,1,none⟩=some (.string (⟨#[]⟩:BA))∧w'.cell? ⟨D.heap.size,2,none⟩=some (.slice A l.length cp)∧w'.cell? ⟨D.heap.size,3,none⟩=some (.int .i64 (bz E.c s))∧w'.cell? ⟨w.heap.size,0,none⟩=some (.pointer (some ⟨E.R,0,none⟩));have hz:SS w6.drew:=s6.drew;(refine wp_region_held_drew (S:=SS) (by kernel_rfl) hz ?_;intro gs;refine mA 0 gs ?_;refine mA 1 gs ?_;refine mA 2 gs ?_;refine F7 3 fun K hK=>?_;go_simp);refine (HC.out _ (ge.drew).rd).mono ?_;rintro e w7 ⟨rfl,hq⟩;unfold aL;exact ⟨rfl,aK HF.out ge.drew.gr hq⟩
   | ok n s3=>
    have HC:=hid (fun W (hr:aW E W s2)=>pj E F hF W s2 hr (by rw [hP];exact nofun));have HF:=hid (show res=.ok (.mk 12 (⟨#[]⟩:BA) [.mk 6 (⟨#[]⟩:BA) l (bz E.c s),n] p) s3 by rw [←gb.out,hP];rfl);rw [hP] at HC;clear gb hP;(have J:D.heap.size≠w.heap.size+1:=by omega);(have gz:w.heap.size≠w.heap.size+1:=by omega);have s6:iU ⟨D.heap.size,0,none⟩ ⟨D.heap.size,1,none⟩ ⟨D.heap.size,2,none⟩ ⟨D.heap.size,3,none⟩ ⟨w.heap.size,0,none⟩ (.int .i64 6) (.string (⟨#[]⟩:BA)) (.slice A l.length cp) (.int .i64 (bz E.c s)) (.pointer (some ⟨E.R,0,none⟩)) w6:=⟨l0,l1,l2,l3,b6⟩;go_region_held3 (fun w'=>w'.cell? ⟨D.heap.size,0,none⟩=some (.int .i64 6)∧w'.cell? ⟨D.heap.size,1,none⟩=some (.string (⟨#[]⟩:BA))∧w'.cell? ⟨D.heap.size,2,none⟩=some (.slice A l.length cp)∧w'.cell? ⟨D.heap.size,3,none⟩=some (.int .i64 (bz E.c s))∧w'.cell? ⟨w.heap.size,0,none⟩=some (.pointer (some ⟨E.R,0,none⟩)))
     (first | with_reducible exact s9 _ _ _ _ | with_reducible exact s8 | with_reducible exact s7.alloc _ | with_reducible exact s7 | with_reducible exact s6.drew)
     (first
      | (go_at_call 132;refine (HC.out _ (ge.drew).rd).mono ?_;rintro e w7 ⟨⟨v,rfl,hv⟩,M⟩;obtain ⟨An,cn,rfl,hC⟩:=hv.toC;have ho:=ge.drew.trans M;have s7:=s6.drew.grown M.gr I.symm I.symm I.symm I.symm N)
      | (go_at_call 64;refine (cc _ _ _ _ _ ⟨_,_,_,rfl⟩).mono ?_;rintro e w8 ⟨rfl,gg⟩;have s8:=(s7.alloc _).below gg;have s9:=s8.put (w.heap.size+1) J J J J gz;have g7:=((g8.drew.grown M.gr).alloc _).below gg (by have:=(g8.drew.grown M.gr).lt;simp;omega);obtain ⟨g0,g1,g2,g3,k0,k1,k2,k3⟩:=ac g7))
    (all_goals go_wp2_with fail);have h7:=M.gr.size;have h5:w6.drew.heap.size=w6.heap.size:=rfl;have hj:=(hl.kept ((aD.refl _ _).drew.trans (aD.of_grown M.gr (fun g e hX=>by injection e with e;subst e;omega)))).mono (Y:=fun b=>D.heap.size+1≤b) (fun b hb _=>hb);obtain ⟨AL,cL,eL,hw⟩:=(ai.of_slice hj 6 (⟨#[]⟩:BA) (bz E.c s)).toC;simp only [Nd.kids_mk,Nd.kind_mk,Nd.text_mk,Nd.pos_mk,Value.agg.injEq,Array.mk.injEq,List.cons.injEq,Value.slice.injEq,true_and,and_true] at eL;obtain ⟨rfl,rfl⟩:=eL;have hV:=ai.make 2 rfl (au.cons hw (au.one (hC.mono (Y:=fun b=>D.heap.size+1≤b) fun b hb _=>by omega))) 12 (⟨#[]⟩:BA) p gg;refine a6 HF.out hV ((ho.alloc _).step gg) g7 (by omega) (by omega) ?_ rfl (by rfl) rfl;rintro b (⟨hb,_⟩ | rfl) <;> constructor <;> omega
end
end Go.Proofs.YtiebcdeafofgdaaGreatDoor
