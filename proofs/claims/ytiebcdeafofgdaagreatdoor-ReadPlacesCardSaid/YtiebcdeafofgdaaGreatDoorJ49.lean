/-
  Parts of the proof: Pbool Vown Vall Pplaces. By an AI agent.
-/
import Derived.Test.YtiebcdeafofgdaaGreatDoorJ12
import Derived.Test.YtiebcdeafofgdaaGreatDoorJ00
import Derived.Test.YtiebcdeafofgdaaGreatDoorJ44
import Derived.Test.YtiebcdeafofgdaaGreatDoorJ39
import Derived.Test.YtiebcdeafofgdaaGreatDoorJ17
import Derived.Laws.MakeOwn
set_option maxRecDepth 100000
set_option maxHeartbeats 8000000
namespace Go.Proofs.YtiebcdeafofgdaaGreatDoor
section
open Go.RowKit
def rc (F:List Bool):Array Value:=(F.map Value.bool).toArray
theorem Eg (F:List Bool):(rc F).size=F.length:=by simp [rc]
theorem AX (F:List Bool) (j:Nat) (h:j<F.length):(rc F)[j]? = some (.bool F[j]):=by simp [rc,h]
theorem F8 (F:List Bool) (j:Nat) (b:Bool):(rc F).setIfInBounds j (.bool b)=rc (F.set j b):=by simp [rc,List.map_set]
theorem LD:(Tryz.prog.info? 4).map (fun i=>(i.zero,i.size,i.bytes))=some (some (.bool false),1,1):=by kernel_rfl
theorem Cq (q:Nat):madeCells (Value.bool false).cells (q * 1)=rc (List.replicate q false):=by refine Array.ext (by rw [size_madeCells,Eg];simp) fun i h1 h2=>?_;simp [madeCells,rc,Value.cells,Nat.mod_one]
theorem AY (q:Nat) (N:q≤1000000000) (w:World):(Instr.makeSlice 41 (.int .i64 (q:Int)) (.int .i64 (q:Int))).run Tryz.prog w=.ok (.slice (some ⟨w.heap.size,0,none⟩) q q) (w.alloc (.cells (rc (List.replicate q false)) 4)):=by obtain ⟨i0,M,J,I,D⟩:=info_parts LD;have h:=run_make (P:=Tryz.prog) w 41 4 i0 (.bool false) Tryz.underlying41 M J .i64 .i64 (q:Int) (q:Int) (by omega) (Int.le_refl _) (by rw [D];omega) (by omega);rw [h,I];simp only [Int.toNat_natCast];rw [Cq]
theorem Gb {w:World} {base base':Nat} {e:TypeId} {size:Nat} {v:Value} {n:Nat} {xs:List Value} (h:w.ownsRow base e size v n xs) (hb:base'≤base):w.ownsRow base' e size v n xs:=by
 obtain ⟨I,D⟩:=h;refine ⟨I,?_⟩;rcases D with D | ⟨g,cap,cur,a,b,r⟩
 ·exact .inl D
 ·exact .inr ⟨g,cap,cur,a,Nat.le_trans hb b,r⟩
theorem tP {w w':World} {r:Option Nat} {B:Nat} (h:w.grownBy w' r) (D:∀ g,r=some g→B≤g) (I:B≤w.heap.size):Below B w w':=
 ⟨h.os,h.tape,h.output,h.size,fun k hk=>h.block k (by omega) (fun e=>by have:=D k e.symm;omega)⟩
end
section
open Go.RowKit Go.Lib Go.Proofs
attribute [local go_sem ↓] Go.wp_at_zero Go.wp_at_succ
def ln (X B:Nat) (w:World) (v:Value) (l:List Nd):Prop:=∃ xs,w.ownsRow B 24 4 v l.length xs∧ak (fun b=>b<X) w l xs
section
variable {X B:Nat} {w w':World} {v:Value} {l:List Nd}
theorem ln.nil (X B:Nat) (w:World):ln X B w (.slice none 0 0) []:=⟨[],World.ownsRow_nil _ _ _ _,ak.nil⟩
theorem ln.below (h:ln X B w v l) (hb:Below w.heap.size w w'):ln X B w' v l:=by
 obtain ⟨xs,J,N⟩:=h;refine ⟨xs,⟨J.1,?_⟩,N.keep fun b _ D=>hb.block b D⟩;rcases J.2 with O | ⟨g,cap,cur,e,M,I,r⟩
 ·exact .inl O
 ·refine .inr ⟨g,cap,cur,e,M,?_,r⟩;have D:g<w.heap.size:=by
   rcases Nat.lt_or_ge g w.heap.size with D | hge
   ·exact D
   ·rw [Array.getElem?_eq_none hge] at I;cases I
  exact (hb.block g D).trans I
theorem ln.lt (h:ln X B w v l):∀ g,v.ownBlock=some g→B≤g∧g<w.heap.size:=by obtain ⟨xs,D,_⟩:=h;exact fun g hg=>D.lt g hg
theorem ln.less {B':Nat} (h:ln X B w v l) (D:B'≤B):ln X B' w v l:=by obtain ⟨xs,J,I⟩:=h;exact ⟨xs,Gb J D,I⟩
theorem ln.values (h:ln X B w v l):cR (fun _=>True) w v l:=by
 obtain ⟨xs,D,J⟩:=h;rcases D.2 with ⟨rfl,q⟩ | ⟨g,cap,cur,rfl,y,U,I,_,N,M⟩
 ·exact ⟨none,0,xs,by rw [q],by omega,⟨D.1,fun h=>by omega⟩,J.mono fun _ _ _=>trivial⟩
 ·refine ⟨_,cap,xs,rfl,I,⟨D.1,fun _=>⟨g,0,rfl,trivial,fun j u hu=>?_⟩⟩,J.mono fun _ _ _=>trivial⟩;(have O:j<l.length * 4:=by have:=(List.getElem?_eq_some_iff.1 hu).1;rw [D.1] at this;exact this);rw [Nat.zero_add];unfold World.cell?;rw [U];simp only [Option.isSome_none,Bool.false_eq_true,if_false];rw [←M,List.getElem?_take_of_lt O] at hu;rw [←hu];simp
theorem ln.form (h:ln X B w v l):∃ A c,v=.slice A l.length c∧l.length≤c:=by obtain ⟨A,c,xs,e,D,_⟩:=h.values;exact ⟨A,c,e,D⟩
theorem ln.one {K:Nat} {n:Nd} {a b c d:Value} (hb:aj w K 24 #[a,b,c,d]) (D:B≤K) (I:bD (fun b=>b<X) w n [a,b,c,d]):ln X B w (.slice (some ⟨K,0,none⟩) 1 1) [n]:=
 ⟨[a,b,c,d],⟨rfl,.inr ⟨K,1,#[a,b,c,d],rfl,D,hb,Nat.le_refl _,by unfold maxLen;omega,rfl,rfl⟩⟩,ak.one I⟩
end
theorem tR {X:Nat→Prop} {w:World} : ∀ {l:List Nd} {xs:List Value},ak X w l xs→∀ u∈xs,u.oneCell'=true
 | [],xs,h=>by unfold ak at h;subst h;simp
 | n::l,xs,h=>by
  unfold ak at h;obtain ⟨ys,zs,rfl,J,I⟩:=h;obtain ⟨A,cap,_,rfl,_⟩:=J.toV;intro u D;rcases List.mem_append.1 D with D | D
  ·exact nF n A cap u D
  ·exact tR I u D
theorem Be {ops:Array Oper} {rest:List Oper} {o:Oper} {a:Act} {Q:Exit→Act→World→Prop} (M:o.guard=none) (s x:Operand)
  (ho:o.op=.call { callee:=.builtin .append,args:=#[s,x],argTypes:=#[22,22] })
  (X B B1:Nat) (w1:World) (u v:Value) (l m:List Nd) (hs:a.eval s=u) (z:a.eval x=v)
  (hO:ln X B w1 u l) (U:ln X B1 w1 v m) (ga:X≤B) (q:B≤w1.heap.size) (hl:l.length+m.length≤1000000)
  (h:∀ v' w2,ln X B w2 v' (l++m)→Below B w1 w2→wpList Tryz.prog ops Q rest (a.put o.dst v') w2) :
  wpList Tryz.prog ops Q (o::rest) a w1:=by obtain ⟨i0,hi,J,I,D⟩:=info_parts mM;obtain ⟨A,c,rfl,_⟩:=U.form;obtain ⟨xs,N,h2⟩:=hO;obtain ⟨ys,h3,y⟩:=U;refine lV w1 M s x 22 ho B 24 i0 _ 4 56 Tryz.underlying22 hi J I D rfl (by omega) u l.length xs hs N w1.heap.size A m.length c ys z (ce.of_own h3) (tR y) (by unfold maxLen;omega) (by omega) q ?_;intro v' w2 hown1 hg _;have O:∀ b,b<X→b<w1.heap.size→w2.heap[b]? = w1.heap[b]? := fun b hb hlt=>hg.block b hlt (fun e=>by have:=(N.lt b e.symm).1;omega);refine h v' w2 ⟨xs++ys,?_,(h2.keep O).app (y.keep O)⟩ (tP hg (fun g hg=>(N.lt g hg).1) q);rw [List.length_append];exact hown1
theorem Gd (X:Nat):∀ (d:Nat) (v:Value) (n:Nd) (w:World),d≤1000→av (fun b=>b<X) w v n→X≤w.heap.size→oy d n→(bg d n).length≤400000 →
  Calls Tryz.prog 20 #[v,.int .i64 (d:Int)] w fun e w'=>(∃ v',e=.returned v'∧ln X w.heap.size w' v' (lN d n))∧Below w.heap.size w w':=by
 intro d;induction d with
 | zero=>intro v n w _ hv _ _ _;obtain ⟨A,cp,rfl,hC⟩:=hv.toC;clear hv hC;have I:=(Below.refl w.heap.size w).alloc (Nat.le_refl _) (.cells (nv n A cp) 24);(go_enter Tryz.func20,Tryz.ntmps20);(go_wp2_with fail);go_ret;exact ⟨⟨_,rfl,ln.nil _ _ _⟩,I⟩
 | succ d ih=>
  intro v n w hd hv hX hw hN;have HV:=hid hv;have HW:=hid hw;have HI:=hid ih;have HN:=hid hN;have gp:=hw.1.1;obtain ⟨A,cp,rfl,hC⟩:=hv.toC;clear hv hw ih hN;have I:=(Below.refl w.heap.size w).alloc (Nat.le_refl _) (.cells (nv n A cp) 24);have N:aj (w.alloc (.cells (nv n A cp) 24)) w.heap.size 24 (nv n A cp):=aj.new w _ _;(have hz:((d:Int)+1==0)=false:=by simp;omega);have HT:=hid (show lN (d+1) n=n::n.kids.flatMap (lN d) from rfl);have HC:=hid hC;clear hC;(go_enter Tryz.func20,Tryz.ntmps20);(go_wp2_with fail);have z:ln X (w.heap.size+1) ((w.alloc (.cells (nv n A cp) 24)).alloc (.cells (nv n A cp) 24)) (.slice (some ⟨w.heap.size+1,0,none⟩) 1 1) [n]:=
   ln.one (aj.new_at (by simp) _ _) (Nat.le_refl _) ((HC.out.keep (fun b _ D=>Below.heap_alloc w _ b D)).keep (fun b _ D=>Below.heap_alloc _ _ b D))
  have gd:=I.alloc (by simp) (.cells (nv n A cp) 24);have b0:=N.alloc (.cells (nv n A cp) 24);go_loopg [5,6] n.kids.length (fun g1 u5 u6 wr=>∃ i:Nat,i≤n.kids.length∧n.kids.length-i≤g1∧u6=.int .i64 (i:Int)∧ln X (w.heap.size+1) wr u5 (n::(n.kids.take i).flatMap (lN d))∧Below w.heap.size w wr∧aj wr w.heap.size 24 (nv n A cp))
  case atStart=>exact ⟨0,Nat.zero_le _,by omega,rfl,by simpa using z,gd,b0⟩
  case round=>
   clear I N z gd b0;obtain ⟨i,hi,hg,rfl,hO,I,N⟩:=hrel;have HO:=hid hO;clear hO;obtain ⟨x0,x1,x2,x3,-,-,-,-⟩:=ac N;by_cases D:i<n.kids.length
   ·(have U:(i:Int)<(n.kids.length:Int):=by omega);(have h0:(0:Int)≤(i:Int):=by omega);obtain ⟨b,off,A1,gr,rfl,-,gq,k0,k1,k2,k3,y⟩:=(HV.out.below I).kidsV.kid i D;have M:=List.getElem_mem D;have HM:=hid (HW.out.2 _ M);have gi:=hid (show n::(n.kids.take (i+1)).flatMap (lN d)=(n::(n.kids.take i).flatMap (lN d))++lN d n.kids[i] by rw [List.take_succ_eq_append_getElem D,List.flatMap_append];simp);(have gg:((n.kids.take i).flatMap (bg d)).length+(bg d n.kids[i]).length≤(n.kids.flatMap (bg d)).length:=by (conv=>rhs;rw [←List.take_append_drop (i+1) n.kids,List.flatMap_append,List.take_succ_eq_append_getElem D,List.flatMap_append]);simp);(have q:((n.kids.take i).flatMap (lN d)).length=((n.kids.take i).flatMap (bg d)).length:=by rw [List.length_flatMap,List.length_flatMap];congr 1;exact List.map_congr_left fun k _=>re d k);clear M;generalize n.kids[i]=x at *;have h:=re d x;have ga:=HN.out;rw [bg,List.length_cons] at ga;have gl:=hid (show (n::(n.kids.take i).flatMap (lN d)).length+(lN d x).length≤1000000 by rw [List.length_cons];omega);have ge:=hid (HI.out _ x wr (by omega) y (Nat.le_trans hX I.size) HM.out (by omega));generalize (n::(n.kids.take i).flatMap (lN d))=acc at *;clear y gg q h ga HM;(go_wp2_with fail);refine ge.out.mono ?_;rintro e w2 ⟨⟨v2,rfl,O⟩,J⟩;have gk:=hid (HO.out.below J);have gh:=hid O;have gm:=I.trans (J.mono I.size);have b2:=N.below J N.lt;have gn:=b2.lt;clear J O ge HO k0 k1 k2 k3 x0 x1 x2 x3 N;go_wp2_with (at_builtin;refine Be rfl (.tmp 18) (.tmp 26) rfl X (w.heap.size+1) _ _ _ _ _ _ rfl rfl gk.out gh.out (by omega) (by omega) gl.out ?_;intro v3 w3 hO3 gb);have gj:=hid hO3;have b3:=b2.below gb (Nat.lt_succ_self _);clear hO3 b2;go_roundg (n.kids.length-(i+1))
    case measure=>omega
    case rel=>exact ⟨i+1,by omega,by omega,by go_num,by rw [gi.out];exact gj.out,gm.trans (gb.mono (Nat.le_succ _)),b3⟩
   ·(have U:¬ (i:Int)<(n.kids.length:Int):=by omega);have ht:n.kids.take i=n.kids:=List.take_of_length_le (by omega);rw [ht,←HT.out] at HO;clear ht;(go_wp2_with fail);go_ret;exact ⟨⟨_,rfl,HO.out.less (Nat.le_succ _)⟩,I⟩
end
section
open Go.RowKit Go.Lib Go.Proofs
attribute [local go_sem ↓] Go.wp_at_zero Go.wp_at_succ
attribute [local go_sem] aW aX aY aZ
theorem Ct (A:Option Addr) (c:Nat) (s:ByteArray) (w:World) (z:dr w A c s) (hT:iq w) :
  Calls Tryz.prog 5 #[.slice A s.size c] w fun e w'=>e=.returned (.bool true)∧Below w.heap.size w w':=by
 by_cases hz:2000<s.size
 ·(have jb:(s.size:Int)>2000:=by omega);clear z hT;(go_enter Tryz.func5,Tryz.ntmps5);(go_wp2_with fail);go_ret;exact ⟨rfl,Below.refl _ _⟩
 (have jb:¬ (s.size:Int)>2000:=by omega);have ja:=hid (Cp w hT);have q:=n7 A c s w z hT (by omega);have gd:=hid (fun W (hb:Below w.heap.size w W)=>rU A c s W (z.below hb) (hT.below hb) (by omega));cases hO:dm fG s with
 | out=>exact absurd hO (tN s)
 | bad p k=>have hk:=Ga hO;(have j1:(k != 0)=true:=by rw [bne_iff_ne];exact hk);rw [hO] at q;have q:=hid q;clear hO z hT gd hz hk;(go_enter Tryz.func5,Tryz.ntmps5);(go_wp2_with fail);refine q.out.mono ?_;rintro e w1 ⟨rfl,N⟩;have J:=N.alloc N.size (.cells aV 24);clear q N;unfold aV at J ⊢;(go_wp2_with fail);refine (ja.out _ J).mono ?_;rintro e w2 ⟨rfl,M⟩;(go_wp2_with fail);go_ret;exact ⟨rfl,J.trans (M.mono J.size)⟩
 | tree n=>
  obtain ⟨L,hs,g7,ge,gb⟩:=Bd hO;have jn:=hid g7;have jo:=hid (Eh (s.size+1));have h3:=hid (Cr (s.size+1));rw [hO] at q;rw [hs] at gd;have q:=hid q;have jl:=hid (lw hs);clear hO z hT hs g7;have hy:=hid (fun v W X (hX:X≤W.heap.size) (h:av (fun b=>b<X) W v n)=>Gd X 200 v n W (by decide) h hX ge (by omega));(have j8:(lN 200 n).length≤1000000:=by rw [re];omega);have g8:=AY (s.size+1) (by omega);rw [show ((s.size+1:Nat):Int)=(s.size:Int)+1 by omega] at g8;have q1:IntKind.i64.wrap ((s.size:Int)+1)=(s.size:Int)+1:=IntWalk.i64_in _ (by omega);clear ge gb;generalize lN 200 n=all at *;(go_enter Tryz.func5,Tryz.ntmps5);(go_wp2_with fail);refine q.out.mono ?_;rintro e w1 ⟨v,rfl,z,N⟩;obtain ⟨A1,c1,rfl,hC⟩:=z.toC;have J:=N.alloc N.size (.cells (nv n A1 c1) 24);have ht:=(Below.refl w1.heap.size w1).alloc (Nat.le_refl _) (.cells (nv n A1 c1) 24);have gs:aj (w1.alloc (.cells (nv n A1 c1) 24)) w1.heap.size 24 (nv n A1 c1):=aj.new w1 _ _;have hw:=hid ((z.mono (Y:=fun b=>b<w1.heap.size) fun _ _ h=>h).below ht);(have gy:(w1.alloc (.cells (nv n A1 c1) 24)).heap.size=w1.heap.size+1:=by simp);clear q N z hC ht;(go_wp2_with fail);refine (gd.out _ J).mono ?_;rintro e w2 ⟨A2,c2,rfl,hf,j2,gz,M⟩;have gu:=J.trans (M.mono J.size);have gr:=gs.below M gs.lt;have hu:=hid (hw.out.below M);have gx:=M.size;rw [gy] at gx;have h2:=hid gz;have D:aj (w2.alloc (.cells (rc (List.replicate (s.size+1) false)) 4)) w2.heap.size 4 (rc (List.replicate (s.size+1) false)):=aj.new w2 _ _;have hl:Below w2.heap.size w2 (w2.alloc (.cells (rc (List.replicate (s.size+1) false)) 4)):=(Below.refl _ _).alloc (Nat.le_refl _) _;clear gd gz M hw gs J gy;(go_wp2_with fail);clear g8 q1;go_loopg [10] L.length (fun gg u10 wr=>∃ (i:Nat),i≤L.length∧L.length-i≤gg∧u10=.int .i64 (i:Int)∧Below w2.heap.size w2 wr∧aj wr w2.heap.size 4 (rc (mI (s.size+1) (L.take i))))
  case atStart=>exact ⟨0,Nat.zero_le _,by omega,rfl,hl,by rw [List.take_zero];exact D⟩
  case round=>
   rename World=>wr;clear D hl;obtain ⟨i,hi,hg,rfl,O,D⟩:=hrel;by_cases ga:i<L.length
   ·(have he:(i:Int)<(L.length:Int):=by omega);(have h0:(0:Int)≤(i:Int):=by omega);obtain ⟨bk,ok,rfl,j5,hc⟩:=(h2.out.below O).el eg (by omega) rfl ga;have jj:=hc i ga 2 _ rfl;have gv:=hid (show mI (s.size+1) (L.take (i+1))=(mI (s.size+1) (L.take i)).set L[i].pos.toNat true by rw [List.take_succ_eq_append_getElem ga];exact h3.out _ _);have hm:=jl.out.at_ _ (List.getElem_mem ga);obtain ⟨p,hp⟩:∃ p:Nat,L[i].pos=(p:Int):=⟨L[i].pos.toNat,by omega⟩
    rw [hp] at jj gv hm;rw [Int.toNat_natCast] at gv;(have g6:p<s.size+1:=by omega);(have jy:(p:Int)<((s.size+1:Nat):Int):=by omega);(have h1:(0:Int)≤(p:Int):=by omega);have jp:=hid (jo.out (L.take i));have j6:=D.frozen p;(have j7:wr.cell? ⟨w2.heap.size,p,none⟩=some (.bool ((mI (s.size+1) (L.take i)).getD p false)):=by (have g0:p<(mI (s.size+1) (L.take i)).length:=by rw [jp.out];exact g6);rw [D.cell p,AX _ p g0,List.getD_eq_getElem?_getD,List.getElem?_eq_getElem g0];rfl);clear hc hm hp;(go_wp2_with fail);go_roundg (L.length-(i+1))
    case measure=>omega
    case rel=>exact ⟨i+1,by omega,by omega,by go_num,O.setCell (Nat.le_refl _) _,by rw [gv.out,←F8];exact D.set_ p _⟩
   ·(have he:¬ (i:Int)<(L.length:Int):=by omega);(obtain rfl:i=L.length:=by omega);rw [List.take_length] at D;have hq:=gr.below O gr.lt;have ho:=hid (hy.out _ wr w1.heap.size (by have:=O.size;omega) (hu.out.below O));obtain ⟨x0,x1,x2,x3,-,-,-,-⟩:=ac hq;have gt:=gu.trans (O.mono gu.size);have hn:=D.lt;have h8:=hid D;clear gr hy hu gu h2 D hf h3;(go_wp2_with fail);refine ho.out.mono ?_;rintro e w3 ⟨⟨v4,rfl,gq⟩,gp⟩;have hr:=gt.trans (gp.mono gt.size);have h4:=hid (h8.out.below gp hn);have jk:=hid gq.values;obtain ⟨A4,c4,rfl,hh⟩:=gq.form;have jt:=hid hh;clear ho gq hh gt x0 x1 x2 x3 hq O gx h8 gp;(go_wp2_with fail);go_loopg [12,13,14] all.length (fun gg u12 _ _ wy=>∃ (j:Nat),j≤all.length∧all.length-j≤gg∧u12=.int .i64 (j:Int)∧Below w3.heap.size w3 wy)
    case atStart=>exact ⟨0,Nat.zero_le _,by omega,rfl,Below.refl _ _⟩
    case round=>
     rename World=>wy;obtain ⟨j,hj,j4,rfl,U⟩:=hrel;by_cases gi:j<all.length
     ·(have ha:(j:Int)<(all.length:Int):=by omega);(have h0:(0:Int)≤(j:Int):=by omega);obtain ⟨b4,o4,A5,c5,rfl,-,jh,k0,k1,k2,k3,gn⟩:=(jk.out.below U).kid j gi;have jm:=jn.out _ (List.getElem_mem gi);have j9:=hid gn;have jq:=hid gn.kidsV;generalize all[j]=x at *;clear gn;obtain ⟨nk,nt,nl,np⟩:=x;obtain ⟨⟨g1,g2,g3,g4⟩,g5⟩:=jm;simp only [Nd.kids_mk,Nd.kind_mk,Nd.text_mk,Nd.pos_mk] at *;obtain ⟨p,rfl⟩:∃ p:Nat,np=(p:Int):=⟨np.toNat,by omega⟩
      rw [Int.toNat_natCast] at g3;have jr:=hid g4;(have g6:p<s.size+1:=by omega);(have j0:¬ (p:Int)<0:=by omega);(have jz:¬ (p:Int)>(s.size:Int):=by omega);(have gj:(0<p)→wy.cell? ⟨w2.heap.size,p,none⟩=some (.bool true):=by intro hp;have hb:=(h4.out.below U h4.out.lt).cell p;rw [hb];have h5:=g3.resolve_right (by omega);obtain ⟨h6,h7⟩:=List.getElem?_eq_some_iff.1 h5;rw [AX _ p h6,h7]);have gm:=hid gj;clear g1 g2 g3 g4 gj;by_cases je:0<p;all_goals
       (have jg:decide ((p:Int)>0)=decide (0<p):=by rw [decide_eq_decide];omega);first
       | have js:=gm.out je;(have jf:(p:Int)>0:=by omega);(have jx:(p:Int)<((s.size+1:Nat):Int):=by omega);have jw:(0:Int)≤(p:Int):=by omega
       | have jf:¬ (p:Int)>0:=by omega
       clear jg gm;(go_wp2_with fail);go_loopg [14] nl.length (fun gk u14 wz=>∃ (k:Nat),k≤nl.length∧nl.length-k≤gk∧u14=.int .i64 (k:Int)∧Below wy.heap.size wy wz)
       case atStart=>exact ⟨0,Nat.zero_le _,by omega,rfl,Below.refl _ _⟩
       case round=>
        rename World=>wz;obtain ⟨k,hk,j3,rfl,I⟩:=hrel;have jv:=(I.cell (p:=⟨b4,o4+j * 4+2,none⟩) jh).trans k2;by_cases gh:k<nl.length
        ·(have g9:(k:Int)<(nl.length:Int):=by omega);(have h9:(0:Int)≤(k:Int):=by omega);obtain ⟨b6,o6,A7,c7,rfl,-,ju,m0,m1,m2,m3,-⟩:=(jq.out.below I).kid k gh;have gw:=jr.out _ (List.getElem_mem gh);generalize nl[k]=y at *;obtain ⟨yk,yt,yl,yp⟩:=y;simp only [Nd.kids_mk,Nd.kind_mk,Nd.text_mk,Nd.pos_mk] at m0 m1 m2 m3 gw;have gl:=I.alloc I.size (.cells #[.int .i64 yk,.string yt,.slice A7 yl.length c7,.int .i64 yp] 24);by_cases jc:yp<(p:Int)
         ·have jd:=gw jc;subst jd;first
          | (exfalso;omega)
          | ((go_wp2_with fail);go_roundg (nl.length-(k+1))
             case measure=>omega
             case rel=>exact ⟨k+1,by omega,by omega,by go_num,gl⟩)
         ·clear gw;(go_wp2_with fail);go_roundg (nl.length-(k+1))
          case measure=>omega
          case rel=>exact ⟨k+1,by omega,by omega,by go_num,gl⟩
        ·(have g9:¬ (k:Int)<(nl.length:Int):=by omega);(go_wp2_with fail);go_roundg (all.length-(j+1))
         case measure=>omega
         case rel=>exact ⟨j+1,by omega,by omega,by go_num,U.trans (I.mono U.size)⟩
     ·(have ha:¬ (j:Int)<(all.length:Int):=by omega);have I:=hr.trans (U.mono hr.size);(go_wp2_with fail);refine (ja.out _ I).mono ?_;rintro e w9 ⟨rfl,ji⟩;(go_wp2_with fail);go_ret;exact ⟨rfl,I.trans (ji.mono I.size)⟩
end
end Go.Proofs.YtiebcdeafofgdaaGreatDoor
