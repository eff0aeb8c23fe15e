/-
  Parts of the proof: Ocont Tsig Usig Usame Sadd Sline Rrg1 Rrg2. By an AI agent.
-/
import Derived.Test.YtcoiialmdncpfaaGreatDoorJ00
import Derived.Test.YtcoiialmdncpfaaGreatDoorJ08
import Derived.Test.YtcoiialmdncpfaaGreatDoorJ09
import Derived.Test.YtcoiialmdncpfaaGreatDoorJ03
import Derived.Test.YtcoiialmdncpfaaGreatDoorJ06
import Derived.Test.YtcoiialmdncpfaaGreatDoorJ01
import Derived.Deep.LoopGhost
import Derived.Laws.EntriesVeiled
import Derived.BigQuiet
import Derived.Lib.Join
import Derived.Laws.Slices
open Go.Proofs.Tryz
set_option maxRecDepth 100000
set_option maxHeartbeats 8000000
namespace Go.Proofs.YtcoiialmdncpfaaGreatDoor
section
open Go.RowKit Go.Lib Go.Proofs
attribute [local go_sem ↓] Go.wp_at_zero Go.wp_at_succ
theorem gV:type_of% @decide_eq_false:=@decide_eq_false
theorem jK:type_of% @decide_eq_true:=@decide_eq_true
theorem kC:type_of% @List.take_succ_eq_append_getElem:=@List.take_succ_eq_append_getElem
theorem qG:type_of% @Go.World.ownsRow.cellAt:=@Go.World.ownsRow.cellAt
theorem qO:type_of% @List.length_take:=@List.length_take
theorem qX:type_of% @Go.World.ownsRow.form:=@Go.World.ownsRow.form
theorem vD:type_of% @Bool.true_and:=@Bool.true_and
theorem vZ:type_of% @List.take_append_drop:=@List.take_append_drop
theorem xc:type_of% @List.getElem?_map:=@List.getElem?_map
abbrev yg(w:World)(v:Value)(x:Tx):Prop:=ni (fun _=>True) w v x
def uQ(p:Tx->Bool):List Tx->Nat->Int
 |[],_ =>-1
 |x::l,i=>if p x then(i:Int)else uQ p l (i+1)
theorem FP(p:Tx->Bool)(l:List Tx)(i:Nat)(h:i<l.length):uQ p (l.drop i) i=if p l[i]then(i:Int)else uQ p (l.drop (i+1)) (i+1):=by rw[jX h,uQ]
def Ch(g:FuncId)(cap:Array Value)(p:Tx->Bool)(l:List Tx)(w:World):Prop:=
 ∀x∈l,∀(W:World)(v:Value),Below w w W->yg W v x->Calls prog g (#[v]++cap) W fun e w'=>e=.returned (.bool (p x))/\Below W W w'
theorem DP(g:FuncId)(cap:Array Value)(p:Tx->Bool)(A:Option Addr)(c:Nat)(l:List Tx)(xs:List Value)(w:World)(hr:bK (fun _=>True) w 3 A l.length xs)(ht:bE (fun _=>True) w l xs)(hl:l.length<=1000000000)
  (he:∀a w,(callFunc g a).run prog w=.ok (.enter g a) w)(hp:Ch g cap p l w):
  Calls prog 131 #[.slice A l.length c,.func (.func g) #[] cap] w fun e w'=>e=.returned (.int .i64 (uQ p l 0))/\Below w w w':=by
 have HR:=hid hr;have HT:=hid ht;have HP:=hid hp;generalize z:uQ p l 0=I;have HI:=hid z;clear hr ht hp z;(go_enter func131,ntmps131);go_wp2_with fail;go_loopg [5,8] l.length (fun g _ u8 wr=>∃i:Nat,i<=l.length/\l.length-i<=g/\u8=.int .i64 (i:Int)/\uQ p (l.drop i) i=I/\Below w w wr)
 case atStart=>exact⟨0,gT _,by omega,rfl,by simpa using HI.out,gC _ _⟩
 case round=>
  obtain⟨i,hi,hg,rfl,z,hB⟩:=hrel;have HI:=hid z;clear z;by_cases O:i<l.length
  ·(have y:(i:Int)<(l.length:Int):=by omega);(have h0:(0:Int)<=(i:Int):=by omega);have hk:∀b,True->b<w.heap.size->wr.heap[b]? = w.heap[b]? :=fun b _ hb=>hB.block b hb;obtain⟨bk,off,rfl,-,hc⟩:=(HR.out.keep hk).2 (by omega);obtain⟨ys,hy,J⟩:=bE.get i O (HT.out.keep hk);obtain⟨A2,ga,gb,rfl,h1,h2,h3⟩:=hy.toV;have k0:=hc (i*3+0) _ (J 0 (by omega));have k1:=hc (i*3+1) _ (J 1 (by omega));have k2:=hc (i*3+2) _ (J 2 (by omega));have q:=hid (HP.out l[i] (jF O) wr (.agg #[.string l[i].op,.string l[i].tag,.slice A2 l[i].kids.length ga]) hB ⟨A2,ga,gb,rfl,h1,h2,h3⟩);have HE:=hid (FP p l i O);simp only[kF]at k0;rw[<-Nat.add_assoc]at k1 k2;have HB:=hid hB;clear hc J hy h1 h2 h3 hk;cases hb:p l[i]with
   |true=>rw[hb]at q HE;have HX:=hid (show I=(i:Int)by rw[<-HI.out,HE.out];rfl);clear hb;generalize l[i]=x at *;go_wp2_with fail;refine q.out.mono ?_;rintro e w1⟨rfl,D⟩;have h:=aE HB.out D;clear D q;go_wp2_with fail;go_ret;exact⟨by rw[HX.out];rfl,h⟩
   |false=>
    rw[hb]at q HE;have HX:Hid (uQ p (l.drop (i+1)) (i+1)=I):=hid (by rw[<-HI.out,HE.out];rfl);clear hb HE;generalize l[i]=x at *;go_wp2_with fail;refine q.out.mono ?_;rintro e w1⟨rfl,D⟩;have h:=aE HB.out D;clear D q;go_wp2_with fail;go_roundg (l.length-(i+1))
    case measure=>omega
    case rel=>exact⟨i+1,by omega,gA _,by go_num,HX.out,h⟩
  ·(have y:¬ (i:Int)<(l.length:Int):=by omega);have M:l.drop i=[]:=jZ (by omega);have HX:Hid (I = -1):=hid (by rw[<-HI.out,M];rfl);clear M;go_wp2_with fail;go_ret;exact⟨by rw[HX.out];rfl,hB⟩
theorem Ci(p:Tx->Bool):∀(l:List Tx)(i:Nat),decide (0<=uQ p l i)=l.any p
 |[],_=>rfl
 |x::l,i=>by
  rw[uQ,List.any_cons];cases p x with
  |true=>simp
  |false=>simpa using Ci p l (i+1)
theorem sB(g:FuncId)(cap:Array Value)(p:Tx->Bool)(A:Option Addr)(c:Nat)(l:List Tx)(xs:List Value)(w:World)(M:bK (fun _=>True) w 3 A l.length xs)(J:bE (fun _=>True) w l xs)(h:l.length<=1000000000)
  (q:∀a w,(callFunc g a).run prog w=.ok (.enter g a) w)(O:Ch g cap p l w):
  Calls prog 79 #[.slice A l.length c,.func (.func g) #[] cap] w fun e w'=>e=.returned (.bool (l.any p))/\Below w w w':=by have x:=hid (DP g cap p A c l xs w M J h q O);have y:=Ci p l 0;generalize uQ p l 0=I at *;clear M J O;(go_enter func79,ntmps79);go_wp2_with fail;refine x.out.mono ?_;rintro e w1⟨rfl,D⟩;go_wp2_with fail;go_ret;exact⟨rfl,D⟩
structure pQ(g:Nat)(F:eZ):Prop where
 typ:eT g F.typ 190
 expr:eT g F.expr 191
 block:eT g F.block 241
 stmt:eT g F.stmt 192
 ifS:eT g F.ifS 257
theorem pQ.pred{d:Nat}{F:eZ}(h:pQ (d+1) F):pQ d F:=
 ⟨h.typ.le fun _=>ie.succ,h.expr.le fun _=>ie.succ,h.block.le fun _=>ie.succ,h.stmt.le fun _=>ie.succ,h.ifS.le fun _=>ie.succ⟩
theorem fY(a:Array Value)(w:World):(callFunc 190 a).run prog w=.ok (.enter 190 a) w:=by kernel_rfl
theorem di(a:Array Value)(w:World):(callFunc 191 a).run prog w=.ok (.enter 191 a) w:=by kernel_rfl
theorem lG(a:Array Value)(w:World):(callFunc 241 a).run prog w=.ok (.enter 241 a) w:=by kernel_rfl
theorem I5(a:Array Value)(w:World):(callFunc 192 a).run prog w=.ok (.enter 192 a) w:=by kernel_rfl
theorem OC(a:Array Value)(w:World):(callFunc 257 a).run prog w=.ok (.enter 257 a) w:=by kernel_rfl
theorem Gg(a:Array Value)(w:World):(callFunc 258 a).run prog w=.ok (.enter 258 a) w:=by kernel_rfl
theorem iM(d:Nat)(w0:World):m9 d aX ⟨258,#[]⟩ w0:=⟨Gg,fun w v n _ hv _=>sq w v n hv⟩
theorem dq.new{w:World}{b:Nat}(fs:List (Fv×(Nd->Bool))){cs:Array Value}(D:cs=(fs.map fun x=>Value.func (.func x.1.k) #[] x.1.cap).toArray)(h:aa w b 196 cs):dq w (some ⟨b,0,none⟩) fs:=
 .inr ⟨b,rfl,by rw[<-D];exact h⟩
theorem I6(g:Nat)(F:eZ)(hF:pQ g F)(so:ByteArray->Bool)(f:Fv)(b:Nat)(w0:World)(hT:bQ w0)(hs:BH so f w0)(hb:aa w0 b 60 #[.func (.func f.k) #[] f.cap]):
  m9 g (sn F so) ⟨289,#[b]⟩ w0:=by
 refine⟨fun a w=>by kernel_rfl,fun w v n hw hv hd=>?_⟩;cases g with
 |zero=>exact hd.elim
 |succ d=>have O:=hv;obtain⟨A,cp,rfl,hC⟩:=hv.toC;have hB:=(cH w (nv n A cp)).1;have D:=hw.alloc hw.size (.cells (nv n A cp) 41);have ca:=aw (hb.bl D);have HN:=hid (bY _ _ n (O.below hB) f so (hs.below D) hd.txt);have HT:=hid (hT.below D);have HF:=hid hF;have HD:=hid hd;have gd:=hb.lt;have gb:=hw.size;show Calls _ _ _ w fun e w'=>e=.returned (.bool (fi 8 [F.typ] (aJ so n)))/\_;clear O hv hC hb hs hT hF hd;(go_enter func289,ntmps289);go_wp2_with fail;refine HN.out.mono ?_;rintro e w1⟨v1,rfl,q,J⟩;have ga:=hid (HT.out.below J);have z:=aE hB J;clear J HN hB D ca HT;go_wp2_with fail;have I:=(gC w1.heap.size w1).alloc (gA _) (.cells #[.func (.func 190) #[] #[]] 196);have h:=aE z I;refine(bI d [(⟨190,#[]⟩,F.typ)] 8 v1 (aJ so n) _ _ 1 rfl (by omega) (q.below I) HD.out.named (dq.new _ rfl (aa.new w1 _ _)) (by intro x hx;obtain rfl:=List.mem_singleton.1 hx;exact HF.out.pred.typ.so fY _ (ga.out.below I))).mono ?_;rintro e w2⟨rfl,M⟩;have y:=aE h M;clear I M h;go_wp2_with fail;go_ret;exact⟨rfl,y⟩
theorem I7(g:Nat)(P:Nd->Bool)(f:Fv)(b:Nat)(w0:World)(M:m9 g P f w0)(hb:aa w0 b 196 #[.func (.func f.k) #[] f.cap]):
  m9 g (n7 P) ⟨290,#[b]⟩ w0:=by
 refine⟨fun a w=>by kernel_rfl,fun w v n hw hv hd=>?_⟩;cases g with
 |zero=>exact hd.elim
 |succ d=>have J:=hv;obtain⟨A,cp,rfl,z⟩:=hv.toC;have h:=(cH w (nv n A cp)).1;have D:=hw.alloc hw.size (.cells (nv n A cp) 41);have ca:=aw (hb.bl D);have q:=hid (BL d P f _ n _ (J.below h) hd ⟨M.enter,fun w' v' n' h1 h2 h3=>M.out w' v' n' (aE D h1) h2 h3.succ⟩);have y:=hb.lt;have x:=hw.size;clear J hv z hb M hd;(go_enter func290,ntmps290);go_wp2_with fail;refine q.out.mono ?_;rintro e w1⟨rfl,I⟩;have O:=aE h I;clear I q h;go_wp2_with fail;go_ret;exact⟨rfl,O⟩
theorem lA{w:World}{g:Nat}{t:TypeId}{a b c d:Value}(h:aa w g t #[a,b,c,d]):w.cell? ⟨g,0,none⟩=some a/\w.cell? ⟨g,1,none⟩=some b/\w.cell? ⟨g,2,none⟩=some c/\w.cell? ⟨g,3,none⟩=some d:=by obtain⟨M,J,I,D,_⟩:=ah h;exact⟨M,J,I,D⟩
theorem CK{d:Nat}{w:World}{f g:Fv}{P Q:Nd->Bool}(I:m9 d P f w)(D:m9 d Q g w):∀x∈[(f,P),(g,Q)],m9 d x.2 x.1 w:=by
 intro x hx;rcases List.mem_cons.1 hx with rfl|hx
 ·exact I
 ·obtain rfl:=List.mem_singleton.1 hx;exact D
theorem EZ(g:Nat)(F:eZ)(hF:pQ g F)(so:ByteArray->Bool)(f:Fv)(v:Value)(n:Nd)(w:World)(hT:bQ w)(hv:dy w v n)(hd:ie (g+1) n)(hs:BH so f w):
  Calls prog 246 #[v,.func (.func f.k) #[] f.cap] w fun e w'=>e=.returned (.bool (Fo F so n))/\Below w w w':=by
 have O:=hv;obtain⟨A,cp,rfl,hC⟩:=hv.toC;have HV:=hid O;have HT:=hid hT;have HS:=hid hs;have HD:=hid hd;have HF:=hid hF;clear O hv hC hT hs hd hF;show Calls _ _ _ w fun e w'=>e=.returned (.bool (fi 12 [n7 (sn F so),fD aX F.typ] n))/\_;(go_enter func246,ntmps246);go_wp2_with fail;have c0:aa (((w.alloc (.cells (nv n A cp) 41)).alloc (.cells #[.func (.func f.k) #[] f.cap] 60)).alloc (.cells #[.func (.func 289) #[] #[.pointer (some ⟨w.heap.size+1,0,none⟩)]] 196)) w.heap.size 41 (nv n A cp):=((aa.new w _ _).alloc _).alloc _;have c1:aa (((w.alloc (.cells (nv n A cp) 41)).alloc (.cells #[.func (.func f.k) #[] f.cap] 60)).alloc (.cells #[.func (.func 289) #[] #[.pointer (some ⟨w.heap.size+1,0,none⟩)]] 196)) (w.heap.size+1) 60 #[.func (.func f.k) #[] f.cap]:=(aa.new_at (by simp) _ _).alloc _;have c2:aa (((w.alloc (.cells (nv n A cp) 41)).alloc (.cells #[.func (.func f.k) #[] f.cap] 60)).alloc (.cells #[.func (.func 289) #[] #[.pointer (some ⟨w.heap.size+1,0,none⟩)]] 196)) (w.heap.size+1+1) 196 #[.func (.func 289) #[] #[.pointer (some ⟨w.heap.size+1,0,none⟩)]]:=aa.new_at (by simp) _ _;have x:Below w w (((w.alloc (.cells (nv n A cp) 41)).alloc (.cells #[.func (.func f.k) #[] f.cap] 60)).alloc (.cells #[.func (.func 289) #[] #[.pointer (some ⟨w.heap.size+1,0,none⟩)]] 196)):=lh;generalize(((w.alloc (.cells (nv n A cp) 41)).alloc (.cells #[.func (.func f.k) #[] f.cap] 60)).alloc (.cells #[.func (.func 289) #[] #[.pointer (some ⟨w.heap.size+1,0,none⟩)]] 196))=W at *;have gb:=hid (HV.out.below x);have y:=hid (HT.out.below x);have HL:=hid (I7 g (sn F so) ⟨289,#[.pointer (some ⟨w.heap.size+1,0,none⟩)]⟩ (w.heap.size+1+1) W (I6 g F HF.out so f _ W y.out (HS.out.below x) c1) c2);have J:=c0.lt;have ge:=c2.lt;have I:Below W W W.drew:=(gC _ _).drew;have gd:=hid (y.out.below I);have q:=aE x I;have C0:=hid c0.drew;clear c1 c2 c0 x HT HV HS;go_region_held3 (fun w'=>w'.cell? ⟨w,0,none⟩=some (.int .i64 n.kind)/\w'.cell? ⟨w,1,none⟩=some (.string n.text)/\w'.cell? ⟨w,2,none⟩=some (.slice A n.kids.length cp)/\w'.cell? ⟨w,3,none⟩=some (.int .i64 n.pos))
  (first|with_reducible exact lA q3|with_reducible exact lA (z.alloc _)|with_reducible exact lA z|with_reducible exact lA C0.out)
  (first
   |(go_at_call 242;refine(eV g aX F.typ ⟨258,#[]⟩ ⟨190,#[]⟩ _ (iM g _) (HF.out.typ.so fY _ gd.out)).mono ?_;rintro e w2⟨h,rfl,ga,D⟩;have z:=C0.out.below D J)
   |(go_at_call 238;refine(bI g [(⟨290,#[.pointer (some ⟨w.heap.size+1+1,0,none⟩)]⟩,n7 (sn F so)),(h,fD aX F.typ)] 12 _ n _ _ 2 rfl (by omega) ((gb.out.below I).below (D.alloc D.size _)) HD.out (dq.new _ rfl (aa.new w2 _ _)) (CK ((HL.out.below I).below (D.alloc D.size _)) (ga.below ((gC _ w2).alloc (gA _) _)))).mono ?_;rintro e w3⟨rfl,M⟩;have q3:=(z.alloc _).below M (jY J (gM D.size (by simp)))))
 (all_goals go_wp2_with fail);(all_goals go_ret);all_goals exact⟨rfl,(aE q D).trans ((((gC _ w2).alloc (gA _) _).trans (M.mono (by simp))).mono (gM q.size D.size))⟩
def C4(w:World)(b o:Nat)(x:Nd)(A:Option Addr)(c:Nat):Prop:=
 w.cell? ⟨b,o,none⟩=some (.int .i64 x.kind)/\w.cell? ⟨b,o+1,none⟩=some (.string x.text)/\w.cell? ⟨b,o+2,none⟩=some (.slice A x.kids.length c)/\w.cell? ⟨b,o+3,none⟩=some (.int .i64 x.pos) /\
  dy w (.agg #[x.kind,x.text,.slice A x.kids.length c,x.pos]) x
theorem C4.below{w w':World}{b o:Nat}{x:Nd}{A:Option Addr}{c:Nat}(h:C4 w b o x A c)(hb:Below w w w'):C4 w' b o x A c:=by obtain⟨M,J,I,D,O⟩:=h;exact⟨(hb.cell (gU w _ M)).trans M,(hb.cell (gU w _ J)).trans J,(hb.cell (gU w _ I)).trans I,(hb.cell (gU w _ D)).trans D,aq.below O hb⟩
theorem Mo{w:World}{A:Option Addr}{k p:Int}{t:ByteArray}{m cp:Nat}{n:Nd}(h:dy w (.agg #[k,t,.slice A m cp,p]) n)(i:Nat)(J:i<n.kids.length):
  ∃b off I D,A=some ⟨b,off,none⟩/\C4 w b (off+i*4) n.kids[i] I D:=by obtain⟨b,off,I,D,e,_,_,y,x,q,O,M⟩:=(aq.kidsV h).kid i J;exact⟨b,off,I,D,e,y,x,q,O,M⟩
theorem i6.get:∀{l m:List Nd}(_:i6 l m)(i:Nat)(I:i<l.length)(D:i<m.length),Bv l[i] m[i]
 |[],_,_,_,I,_=>absurd I (by simp)
 |_::_,[],_,_,_,D=>absurd D (by simp)
 |a::l,b::m,h,i,I,D=>by
  unfold i6 at h;rw[yb,yb]at h;injection h with J h2;cases i with
  |zero=>exact J
  |succ i=>exact i6.get (show i6 l m from h2) i (by simpa using I) (by simpa using D)
theorem GR:∀(d:Nat)(v u:Value)(n m:Nd)(w:World),d<=1000->dy w v n->dy w u m->Bv n m->ie d n ->
  Calls prog 8 #[v,u,(d:Int)] w fun e w'=>e=.returned (.bool true)/\Below w w w':=by
 intro d;induction d with
 |zero=>intro v u n m w _ _ _ _ h;exact h.elim
 | succ d ih=>
  intro v u n m w hd hv hu he hl;obtain⟨k,t,l,a⟩:=n;obtain⟨k',t',l',a'⟩:=m;obtain rfl:k=k':=he.kind;obtain rfl:t=t':=he.text;have gd:Hid (i6 l l'):=hid he.kids;have D:l'.length=l.length:=gd.out.len.symm;have HV:=hid hv;have HU:=hid hu;have HI:=hid ih;have HD:Hid (∀k∈l,ie d k):=hid hl.2;have gm:l.length<=1000000000:=hl.1.1;obtain⟨A,cp,rfl,hC⟩:=hv.toC;obtain⟨B,cq,rfl,ge⟩:=hu.toC;clear hv hu hC ge he hl ih;simp only[Nd.kids_mk,Nd.kind_mk,Nd.text_mk,Nd.pos_mk]at *;(have gl:((l.length:Int) != (l'.length:Int))=false:=by rw[D];simp);(have yk:((l.length:Int)==(l'.length:Int))=true:=by rw[D];simp);have gb:=hid D;(have hz:((d:Int)+1==0)=false:=by simp;omega);have q:=((gC w.heap.size w).alloc (gA _) (.cells #[.int .i64 k,.string t,.slice A l.length cp,.int .i64 a] 41)).alloc (by simp) (.cells #[.int .i64 k,.string t,.slice B l'.length cq,.int .i64 a'] 41);have b1:=(show aa (w.alloc (.cells #[.int .i64 k,.string t,.slice A l.length cp,.int .i64 a] 41)) w.heap.size 41 #[.int .i64 k,.string t,.slice A l.length cp,.int .i64 a]from aa.new w _ _).alloc (.cells #[.int .i64 k,.string t,.slice B l'.length cq,.int .i64 a'] 41);have z:aa ((w.alloc (.cells #[.int .i64 k,.string t,.slice A l.length cp,.int .i64 a] 41)).alloc (.cells #[.int .i64 k,.string t,.slice B l'.length cq,.int .i64 a'] 41)) (w.heap.size+1) 41 #[.int .i64 k,.string t,.slice B l'.length cq,.int .i64 a']:=aa.new_at (by simp) _ _;clear D;(go_enter func8,ntmps8);go_wp2_with fail;go_loopg [7] l.length (fun g1 u7 wr=>∃(i:Nat),i<=l.length/\l.length-i<=g1/\u7=.int .i64 (i:Int)/\Below w w wr/\aa wr w.heap.size 41 #[.int .i64 k,.string t,.slice A l.length cp,.int .i64 a]/\aa wr (w.heap.size+1) 41 #[.int .i64 k,.string t,.slice B l'.length cq,.int .i64 a'])
  case atStart=>exact⟨0,gT _,by omega,rfl,q,b1,z⟩
  case round=>
   clear b1 z q;obtain⟨i,hi,hg,rfl,q,b1,z⟩:=hrel;obtain⟨x0,x1,x2,x3,-,-,-,-⟩:=ah b1;obtain⟨y0,y1,y2,y3,-,-,-,-⟩:=ah z;by_cases M:i<l.length
   ·(have ga:(i:Int)<(l.length:Int):=by omega);(have O:i<l'.length:=by rw[gb.out];exact M);(have gj:(i:Int)<(l'.length:Int):=by omega);(have h0:(0:Int)<=(i:Int):=by omega);obtain⟨bp,op,A1,gi,rfl,hp⟩:=Mo (aq.below HV.out q) i M;obtain⟨bq,oq,A2,gh,rfl,hq⟩:=Mo (aq.below HU.out q) i O;simp only[Nd.kids_mk]at hp hq;have HC:=hid (fun n:Wd (Below wr wr)=>HI.out _ _ l[i] l'[i] n.wd (by omega) (hp.below n.ok).2.2.2.2 (hq.below n.ok).2.2.2.2 (gd.out.get i M O) (HD.out _ (jF M)));have J:∀n:Wd (Below wr wr),C4 n.wd bp (op+i*4) l[i] A1 gi:=fun n=>hp.below n.ok;have I:∀n:Wd (Below wr wr),C4 n.wd bq (oq+i*4) l'[i] A2 gh:=fun n=>hq.below n.ok;generalize l[i]=x at *;generalize l'[i]=y at *;have k0:=fun n=>(J n).1;have k1:=fun n=>(J n).2.1;have k2:=fun n=>(J n).2.2.1;have k3:=fun n=>(J n).2.2.2.1;have m0:=fun n=>(I n).1;have m1:=fun n=>(I n).2.1;have m2:=fun n=>(I n).2.2.1;have m3:=fun n=>(I n).2.2.2.1;have kx:∀n:Wd (Below wr wr),n.wd.cell? ⟨w,2,none⟩=some (.slice (some ⟨bp,op,none⟩) l.length cp):=fun n=>(n.ok.cell (gU wr _ x2)).trans x2;have ky:∀n:Wd (Below wr wr),n.wd.cell? ⟨w.heap.size+1,2,none⟩=some (.slice (some ⟨bq,oq,none⟩) l'.length cq):=fun n=>(n.ok.cell (gU wr _ y2)).trans y2;clear hp hq J I;go_wp2_with fail;refine ei wr ?_;(repeat(go_big_quiet_step ((go_at_call 8;rename_i n;refine(HC.out n).mono ?_;rintro e w'⟨rfl,hb⟩;exact⟨rfl,⟨w',aE n.ok hb⟩,rfl⟩))));refine m7 ?_;intro n;have gg:=aE q n.ok;have b3:=b1.bl n.ok;have b4:=z.bl n.ok;clear b1 z HC k0 k1 k2 k3 x0 x1 x2 x3 m0 m1 m2 m3 y0 y1 y2 y3 kx ky;go_wp2_with fail;go_roundg (l.length-(i+1))
    case measure=>omega
    case rel=>exact⟨i+1,by omega,gA _,by go_num,gg,b3,b4⟩
   ·(have ga:¬ (i:Int)<(l.length:Int):=by omega);go_wp2_with fail;go_ret;exact⟨rfl,q⟩
end
section
open Go.RowKit Go.Lib Go.Proofs
attribute [local go_sem ↓] Go.wp_at_zero Go.wp_at_succ
attribute [local go_sem] aK aL aM
theorem iD[NsC](X:Nat)(s:ByteArray)(i:Nat)(l:List cz)(k:Int)(j:Nat)(hj:j<=i)(z:l.length+1<=65537)(w:World)(h:ij w X s i l):
  Calls prog 169 #[X,k,(j:Int)] w (sP X s w i (l++[⟨k,s.extract j i,j⟩]) (.tuple #[])):=by
 obtain⟨lv,nv,D⟩:=h.out;have hb:=D.blk;have x:=D.toks;have y:=hb.lt;have O:=h.le;have J:=h.most;obtain⟨A0,c0,M,_⟩:=x.form;subst M;obtain⟨x0,x1,x2,x3,f0,f1,f2,f3⟩:=ah hb;(have p0:(0:Int)<=(j:Int):=by omega);(have p1:(j:Int)<=(i:Int):=by omega);(have p2:(i:Int)<=(s.size:Int):=by omega);(go_enter func169,ntmps169);go_wp2_with fail;go_region_law (first
  |(refine ul (by rfl) (.tmp 10) (.tmp 24) (by rfl) (X+1) _ _ l ⟨k,s.extract j i,j⟩ (by rfl) _ (by rfl) (by simp) (x.below (gC _ _).drew) (by simp;omega) (by omega) ?_;intro g c w1 I;have q:=(aa.drew hb).below I.bel (jO _);obtain⟨z0,z1,z2,z3,y0,y1,y2,y3⟩:=ah q))
 all_goals go_end0;exact⟨rfl,⟨⟨_,nv,(D.below (gC _ _).drew).row I⟩,O,J,by rw[gJ];simpa using z⟩,((gC X w).drew.trans (I.bel.mono (jC _))).setCell (gA _) _⟩
def mF:ByteArray:=(⟨#[32,43,43,32,45,45,32,41,32,93,32,125,32]⟩:BA)
def BO(t:cz):Bool:=
 if t.kind=1\/t.kind=4\/t.kind=5 then true
 else if t.kind=2\/t.kind=3 then decide (t.text=(⟨#[98,114,101,97,107]⟩:BA))||(decide (t.text=(⟨#[99,111,110,116,105,110,117,101]⟩:BA))||(decide (t.text=(⟨#[114,101,116,117,114,110]⟩:BA))||decide (t.text=(⟨#[102,97,108,108,116,104,114,111,117,103,104]⟩:BA))))
 else Lib.contains mF.data.toList ((⟨#[32]⟩++t.text++⟨#[32]⟩:ByteArray)).data.toList
def fP(l:List cz):Bool:=match l.getLast? with
 |none=>false
 |some t=>BO t
theorem ii.at_{B:Nat}{w:World}{v:Value}{l:List cz}(h:ii B w v l)(i:Nat)(D:i<l.length):
  ∃g c,v=.slice (some ⟨g,0,none⟩) l.length c/\B<=g/\g<w.heap.size/\w.cell? ⟨g,i*3,none⟩=some (.int .i64 l[i].kind)/\w.cell? ⟨g,i*3+1,none⟩=some (.string l[i].text)/\w.cell? ⟨g,i*3+2,none⟩=some (.int .i64 l[i].pos):=by obtain⟨g,c,I,hg,J⟩:=qX h (by omega);obtain⟨A,c',e,_⟩:=h.form;rw[I]at e;injection e with e1 e2 e3;subst e1 e3;have z:=aA.of_own (I▸h:w.ownsRow B _ 3 (.slice (some ⟨g,0,none⟩) l.length c) l.length (l.flatMap mc));obtain⟨b,off,O,hb,M⟩:=z.el dX (by omega) rfl D;injection O with O;injection O with e4 e5;subst e4 e5;have y:=M i D 0 _ rfl;have x:=M i D 1 _ rfl;have q:=M i D 2 _ rfl;simp only[kL,kF]at y x q;exact⟨g,c,I,hg,J,y,x,q⟩
theorem O6{w:World}{g:Nat}{t:TypeId}{a b c:Value}(h:aa w g t #[a,b,c]):w.cell? ⟨g,0,none⟩=some a/\w.cell? ⟨g,1,none⟩=some b/\w.cell? ⟨g,2,none⟩=some c:=by have c0:=h.cell 0;have c1:=h.cell 1;have c2:=h.cell 2;simp at c0 c1 c2;exact⟨c0,c1,c2⟩
theorem Du[NsC](X:Nat)(s:ByteArray)(i:Nat)(l:List cz)(w:World)(h:ij w X s i l)(hT:bQ w)(M:∀t∈l,t.text.size<=65536):
  Calls prog 174 #[X] w fun e w'=>e=.returned (.bool (fP l))/\Below w w w':=by
 obtain⟨lv,nv,x⟩:=h.out;have hb:=x.blk;have hO:=x.toks;have gg:=hb.lt;have gb:=h.few;obtain⟨A0,c0,O,gd⟩:=hO.form;obtain⟨x0,x1,x2,x3,-,-,-,-⟩:=ah hb;rw[O]at x2;by_cases hl:l.length=0
 ·have hE:Hid (fP l=false):=hid (by rw[jI hl];rfl);rw[hl]at x2;(go_enter func174,ntmps174);go_wp2_with fail;go_ret;exact⟨by rw[hE.out];rfl,gC _ _⟩
 ·obtain⟨g,c,hv,hg,gh,k0,k1,k2⟩:=hO.at_ (l.length-1) (by omega);rw[O]at hv;injection hv with e1 e2 e3;subst e1 e3;(have J:l.getLast? = some (l[l.length-1]'(by omega)):=by rw[List.getLast?_eq_getElem?,gO]);have HE:=hid (show fP l=BO (l[l.length-1]'(by omega))by unfold fP;rw[J]);have ga:=hid (M _ (jF (show l.length-1<l.length by omega)));generalize l[l.length-1]'(by omega)=t at *;obtain⟨tk,tt,tp⟩:=t;simp only at k0 k1 k2;(have ge:((l.length:Int)==0)=false:=by rw[gD];omega);(have p1:(0:Int)<=(l.length:Int)-1:=by omega);(have p2:(l.length:Int)-1<(l.length:Int):=by omega);(have p3:(1:Int)<=(l.length:Int):=by omega);(have q2:((l.length:Int)-1).toNat=l.length-1:=by omega);have q1:IntKind.i64.wrap ((l.length:Int)-1)=(l.length:Int)-1:=gQ _ (by omega);have HT:=hid hT;clear J hT M;(go_enter func174,ntmps174);(go_upto_region 3 with fail);go_cut [3] (fun s3 wx=>∃b,s3=.pointer (some ⟨b,0,none⟩)/\aa wx b 105 #[.int .i64 tk,.string tt,.int .i64 tp]/\Below w w wx)
  case first=>go_region_law (fail);all_goals(go_wp2_with fail);go_meet;exact⟨_,rfl,(aa.new _ _ _).drew,((gC _ _).alloc (gA _) _).drew⟩
  case rest=>
   obtain⟨b,rfl,hB,D⟩:=hcut;obtain⟨y0,y1,y2⟩:=O6 hB;have z:=hid (dz mF (⟨#[32]⟩++tt++⟨#[32]⟩) wc (HT.out.below D) (by unfold mF;simp[ByteArray.size]));clear k0 k1 k2 x0 x1 x2 x3 hB;by_cases y:tk=1\/tk=4\/tk=5
   ·have I:Hid (fP l=true):=hid (by rw[HE.out,BO,gL y]);rcases y with rfl|rfl|rfl;all_goals(go_wp2_with fail);go_ret;exact⟨by rw[I.out];rfl,D⟩
   ·by_cases h2:tk=2\/tk=3
    ·have I:=hid (show fP l=((tt.toList==[98,114,101,97,107])||((tt.toList==[99,111,110,116,105,110,117,101])||((tt.toList==[114,101,116,117,114,110])||(tt.toList==[102,97,108,108,116,104,114,111,117,103,104]))))by rw[HE.out,BO,gE y,gL h2,<-bN tt [98,114,101,97,107],<-bN tt [99,111,110,116,105,110,117,101],<-bN tt [114,101,116,117,114,110],<-bN tt [102,97,108,108,116,104,114,111,117,103,104]]);cases g1:(tt.toList==[98,114,101,97,107])<;>cases g2:(tt.toList==[99,111,110,116,105,110,117,101])<;>cases g3:(tt.toList==[114,101,116,117,114,110])<;>cases g4:(tt.toList==[102,97,108,108,116,104,114,111,117,103,104])<;>rcases h2 with rfl|rfl
     all_goals rw[g1,g2,g3,g4]at I;go_wp2_with fail;go_ret;exact⟨by rw[I.out];rfl,D⟩
    ·have I:Hid (fP l=Lib.contains mF.data.toList ((⟨#[32]⟩++tt++⟨#[32]⟩:ByteArray)).data.toList):=hid (by rw[HE.out,BO,gE y,gE h2]);generalize Lib.contains mF.data.toList ((⟨#[32]⟩++tt++⟨#[32]⟩:ByteArray)).data.toList=q at *;(have e1:(tk==1)=false:=by rw[gD];omega);(have e2:(tk==2)=false:=by rw[gD];omega);(have e3:(tk==3)=false:=by rw[gD];omega);(have e4:(tk==4)=false:=by rw[gD];omega);(have e5:(tk==5)=false:=by rw[gD];omega);clear y h2;unfold mF at z;have M:tt.size<=65536:=ga.out;go_wp2_with fail;refine z.out.mono ?_;rintro e w2⟨rfl,rfl⟩;go_wp2_with fail;go_ret;exact⟨by rw[I.out];rfl,D⟩
structure rm(w:World)(g:Nat)(b off c:Nat)(l:List cz):Prop where
 box:w.cell? ⟨g,0,none⟩=some (.slice (some ⟨b,off,none⟩) l.length c)
 le:l.length<=c
 lt:b<w.heap.size
 cells:∀(j:Nat)(u:Value),(l.flatMap mc)[j]? = some u->w.cell? ⟨b,off+j,none⟩=some u
theorem rm.below{w w':World}{g b off c:Nat}{l:List cz}(h:rm w g b off c l)(hb:Below w w w'):rm w' g b off c l:=
 ⟨cell_kept hb h.box,h.le,jY h.lt hb.size,fun j u hu=>cell_kept hb (h.cells j u hu)⟩
theorem rm.tok{w:World}{g b off c:Nat}{l:List cz}(h:rm w g b off c l)(i:Nat)(D:i<l.length):
  w.cell? ⟨b,off+i*3,none⟩=some (.int .i64 l[i].kind)/\w.cell? ⟨b,off+i*3+1,none⟩=some (.string l[i].text)/\w.cell? ⟨b,off+i*3+2,none⟩=some (.int .i64 l[i].pos):=by
 refine⟨h.cells (i*3) _ ?_,h.cells (i*3+1) _ ?_,h.cells (i*3+2) _ ?_⟩
 ·have:=eB dX l i 0 D (by omega);rw[kF]at this;rw[this];rfl
 ·rw[eB dX l i 1 D (by omega)];rfl
 ·rw[eB dX l i 2 D (by omega)];rfl
theorem rn(g b off c:Nat)(l:List cz)(n:Nat)(w:World)(h:rm w g b off c l):
  Calls prog 309 #[(n:Int),g] w fun e w'=>e=.returned (.bool (decide (n<l.length)&&((l.getD n ⟨0,⟨#[]⟩,0⟩).kind==1)))/\w=w':=by
 have hb:=h.box;by_cases D:n<l.length
 ·obtain⟨O,M,J⟩:=h.tok n D;(have e:l.getD n ⟨0,⟨#[]⟩,0⟩=l[n]:=by rw[jJ,gO D];rfl);rw[e,jK D,vD];(have I:(l.length:Int)>(n:Int):=by omega);(have x:(0:Int)<=(n:Int):=by omega);clear h e;generalize l[n]=t at *;cases q:(t.kind==1);all_goals(go_enter func309,ntmps309);go_wp2_with fail;go_ret;exact⟨rfl,rfl⟩
 ·(have I:¬ (l.length:Int)>(n:Int):=by omega);rw[gV D,vw];clear h;(go_enter func309,ntmps309);go_wp2_with fail;go_ret;exact⟨rfl,rfl⟩
theorem BV(l:List cz)(i:Nat)(I:i<l.length)(D:l[i].kind=5):dU l=(⟨#[]⟩:BA):=by unfold dU;rw[gL];rw[List.any_eq_true];exact⟨l[i],jF I,by simp[D]⟩
theorem Fz(r:List cz):∀a:ByteArray,(r.foldl (fun a u=>a++(⟨#[32]⟩:BA)++u.text) a).data.toList=a.data.toList++Lib.joinTail [32] (r.map fun t=>t.text.data.toList):=by
 induction r with
 |nil=>intro a;simp[Lib.joinTail]
 |cons t r ih=>intro a;rw[List.foldl_cons,ih];simp[Lib.joinTail]
theorem BW(t:cz)(r:List cz)(h:(t::r).any (fun t=>t.kind==5)=false):dU (t::r)=⟨(Lib.join (((t::r).map (·.text)).map (·.data.toList)) ((⟨#[32]⟩:BA):ByteArray).data.toList).toArray⟩:=by unfold dU;rw[gE (by rw[h];decide)];apply ByteArray.ext;apply Array.toList_inj.1;show(r.foldl (fun a u=>a++(⟨#[32]⟩:BA)++u.text) t.text).data.toList=_;rw[Fz];simp[Lib.join_cons];rfl
theorem Oi:(prog.info? 9).map (fun i=>(i.zero,i.size,i.bytes))=some (some (.string ⟨#[]⟩),1,16):=by kernel_rfl
theorem Ik:prog.underlying 101=some (.slice (prog.elem 101)):=by kernel_rfl
theorem MN:prog.elem 101=105:=by kernel_rfl
theorem Il(w:World):(sizeOf (prog.elem 101)).run prog w=.ok 3 w:=by rw[MN];exact sizeOf105 w
theorem Im(b off q c k:Nat)(I:k<=q)(D:q<=c)(W:World):(Instr.slice 101 (.slice (some ⟨b,off,none⟩) q c) none (some (.int .i64 (k:Int))) none).run prog W=.ok (.slice (some ⟨b,off,none⟩) k c) W:=by rw[run_slice_h (P:=prog) W 101 (some ⟨b,off,none⟩) q c Ik .i64 (k:Int) (by omega) (by omega),Il];simp only[Result.andThen,sliced,vC,xl,iU,kF,ite_self,Int.toNat_natCast,Nat.sub_zero]
def uG(B:Nat)(w:World)(v:Value)(l:List ByteArray):Prop:=w.ownsRow B 9 1 v l.length (l.map Value.string)
theorem uG.nil(B:Nat)(w:World):uG B w (.slice none 0 0) []:=kP _ _ _ _
theorem AJ{ops:Array Oper}{rest:List Oper}{o:Oper}{a:Act}{Q:Exit->Act->World->Prop}(M:o.guard=none)(s x:Operand)
  (z:o.op=.call { callee:=.builtin .append,args:=#[s,x],argTypes:=#[24,24] })
  (B:Nat)(w1:World)(u:Value)(l:List ByteArray)(t:ByteArray)(y:a.eval s=u)(S:Nat)(q:a.eval x=.slice (some ⟨S,0,none⟩) 1 1)(hS:w1.heap.size=S)
  (O:uG B w1 u l)(hB:B<=w1.heap.size)(hl:l.length<=1000000)
  (h:∀v' w2,uG B w2 v' (l++[t])->Below B w1 w2->wpList prog ops Q rest (a.put o.dst v') w2):
  wpList prog ops Q (o::rest) a (w1.alloc (.cells #[t] 9)):=by
 subst hS;obtain⟨i0,hi,J,I,D⟩:=qr Oi;refine du (w1.alloc (.cells #[t] 9)) M s x 24 z B 9 i0 _ 1 16 underlying24 hi J I D rfl (by omega) u l.length _ y (kQ O _) (w1.heap.size+1) (some ⟨w1,0,none⟩) 1 1 [.string t] q
  (cc (fr:=(0,0)) (t:=9) (kJ w1 _) rfl (jO _)) (by simp[Value.oneCell']) (by unfold maxLen;omega) (by omega) (by simp;omega) ?_
 intro v' w2 hown hg _;refine h v' w2 ?_ (((gC B w1).alloc hB _).grown hg (by simp;omega) (fun g hg=>(qA O g hg).1));unfold uG;rw[kW,gJ];exact hown
theorem uG.less{B B':Nat}{w:World}{v:Value}{l:List ByteArray}(h:uG B w v l)(I:B'<=B):uG B' w v l:=by
 refine⟨h.1,?_⟩;rcases h.2 with J|⟨g,cap,cur,e,D,r⟩
 ·exact .inl J
 ·exact .inr ⟨g,cap,cur,e,gM I D,r⟩
theorem DA(l:List ByteArray)(h:∀t∈l,t.size<=1000000000)(D:l.length<=5):(Lib.join (l.map (·.data.toList)) [32]).length<=140737488355328:=by
 rcases l with _|⟨x,r⟩
 ·simp[Lib.join]
 ·rw[vX,Lib.join_length];have:∀l:List ByteArray,(∀t∈l,t.size<=1000000000)->Lib.lens (l.map (·.data.toList))<=l.length*1000000000:=by
   intro l;induction l with
   |nil=>intro _;simp[Lib.lens]
   |cons y l ih=>intro h;have I:=ih fun t ht=>h t (vu _ ht);have J:=h y vV;unfold Lib.lens at I |-;simp only[vX,List.sum_cons,gI];rw[show y.data.toList.length=y.size from rfl];omega
  have:=this (x::r) h;rw[vX]at this;simp at D |-;simp at this;omega
theorem yM(g b off c:Nat)(l:List cz)(n:Nat)(gn:3<=n)(gm:n<=5)(hl:3<=l.length)(gp:l.length<=1000000)(y:∀t∈l,t.text.size<=1000000000)(w:World)(h:rm w g b off c l):
  Calls prog 307 #[(n:Int),g] w fun e w'=>e=.returned (.string (dU (l.take n)))/\Below w w w':=by
 have HT:=hid h;have gv:=h.box;obtain⟨m,hm,g4,g3,gq,ga⟩:∃m:Nat,min (n:Int) (l.length:Int)=(m:Int)/\3<=m/\m<=5/\m<=l.length/\l.take n=l.take m:=by
  by_cases I:n<=l.length
  ·exact⟨n,by omega,gn,gm,I,rfl⟩
  ·exact⟨l.length,by omega,hl,by omega,gA _,by rw[jU (by omega),List.take_length]⟩
 rw[ga];have gu:=Im b off l.length c m gq h.le;have yk:=hid (fun i(hi:i<m)(M:(l[i]'(by omega)).kind=5)=>BV (l.take m) i (by rw[qO];omega) (by rw[List.getElem_take];exact M));have gl:=hid (show(l.take m).any (fun t=>t.kind==5)=false->dU (l.take m)=⟨(Lib.join (((l.take m).map (·.text)).map (·.data.toList)) ((⟨#[32]⟩:BA):ByteArray).data.toList).toArray⟩by
  intro I;cases ht:l.take m with
  |nil=>have:=qD List.length ht;rw[qO,jT]at this;omega
  |cons t r=>exact BW t r (by rw[<-ht];exact I))
 have g2:=hid (DA ((l.take m).map (·.text)) (by intro t ht;obtain⟨x,I,rfl⟩:=List.mem_map.1 ht;exact y x (List.mem_of_mem_take I)) (by rw[jN,qO];omega));have g1:=hid (show((l.take m).map (·.text)).length=m by rw[jN,qO];omega);clear h ga y;(go_enter func307,ntmps307);go_wp2_with fail;clear hm gu gv;go_loopg [4,14] m (fun gg u4 u14 wr=>∃i:Nat,i<=m/\m-i<=gg/\u14=.int .i64 (i:Int)/\uG w.heap.size wr u4 ((l.take i).map (·.text))/\(l.take i).any (fun t=>t.kind==5)=false/\Below w w wr)
 case atStart=>exact⟨0,gT _,by omega,rfl,uG.nil _ _,rfl,gC _ _⟩
 case round=>
  obtain⟨i,hi,g5,rfl,hO,J,hB⟩:=hrel;have HO:=hid hO;have D:=hid J;clear hO J;by_cases gr:i<m
  ·(have gd:(i:Int)<(m:Int):=by omega);(have h0:(0:Int)<=(i:Int):=by omega);(have O:i<l.length:=by omega);obtain⟨t0,t1,t2⟩:=(HT.out.below hB).tok i O;have gx:=hid (show(l.take (i+1)).map (·.text)=(l.take i).map (·.text)++[l[i].text]by rw[kC O,kW];rfl);have gj:=hid (show(l.take (i+1)).any (fun t=>t.kind==5)=((l.take i).any (fun t=>t.kind==5)||(l[i].kind==5))by rw[kC O,List.any_append];simp);have HS:=hid (yk.out i gr);generalize l[i]=t at *;(have gs:((l.take i).map (·.text)).length<=1000000:=by rw[jN,qO];omega);generalize(l.take i).map (·.text)=xs at *;have q:=hB.alloc hB.size (.cells #[t.kind,t.text,t.pos] 105);have g0:Hid (uG w.heap.size (wr.alloc (.cells #[t.kind,t.text,t.pos] 105)) u4 xs):=hid (kQ HO.out _);by_cases M:t.kind=5
   ·have HR:=hid (HS.out M);(have ge:(t.kind==5)=true:=by simp[M]);clear M HS;go_wp2_with fail;go_ret;exact⟨by rw[HR.out];rfl,q⟩
   ·(have ge:(t.kind==5)=false:=by simp[M]);have gy:=hid (show(l.take (i+1)).any (fun t=>t.kind==5)=false by rw[gj.out,D.out,ge];rfl);have z:=q.size;clear M HS gj D;go_wp2_with (at_builtin;refine AJ rfl (.tmp 21) (.tmp 24) rfl w.heap.size _ _ _ _ rfl _ rfl (by simp) g0.out z gs ?_;intro v3 w3 hO3 hB3);have gz:=hid hO3;clear hO3;go_roundg (m-(i+1))
    case measure=>omega
    case rel=>exact⟨i+1,by omega,by omega,by go_num,by rw[gx.out];exact gz.out,gy.out,q.trans hB3⟩
  ·(have gd:¬ (i:Int)<(m:Int):=by omega);(have gt:i=m:=by omega);subst gt;have HR:=hid (gl.out D.out);clear D gl yk;have HX:=g1.out;generalize(l.take i).map (·.text)=xs at *;obtain⟨gb,cp,rfl,g6,gh⟩:=qX HO.out (by omega);have gi:xs.length<=cp:=by
    rcases HO.out.2 with⟨e,_⟩|⟨g',cap',cur',e,_,_,hc,_⟩
    ·cases e
    ·injection e with _ _ e;omega
   have HJ:=hid (Any.strings_Join Tryz.laysJoin Tryz.joinX gb 0 cp xs ⟨#[32]⟩ wr (fun j x I=>by have hj:j<xs.length:=(List.getElem?_eq_some_iff.1 I).1;rw[kL,qG HO.out j (by omega),xc,I];rfl) gh (by omega) gi g2.out);clear HX;go_wp2_with fail;change Calls _ 308 _ _ _;refine HJ.out.mono ?_;rintro e w5⟨rfl,gw⟩;go_wp2_with fail;go_ret;exact⟨by rw[HR.out];rfl,aE hB gw⟩
theorem MO(b off q c k:Nat)(toks:List cz)(D:toks.length=q)(O:k<=q)(M:q<=c):∃off',(∀W:World,(Instr.slice 101 (.slice (some ⟨b,off,none⟩) q c) (some (.int .i64 (k:Int))) none none).run prog W=.ok (.slice (some ⟨b,off',none⟩) (q-k) (c-k)) W) /\
  ∀w:World,(∀(j:Nat)(u:Value),(toks.flatMap mc)[j]? = some u->w.cell? ⟨b,off+j,none⟩=some u)->∀(j:Nat)(u:Value),((toks.drop k).flatMap mc)[j]? = some u->w.cell? ⟨b,off'+j,none⟩=some u:=by
 refine⟨if c=k then off else off+k*3,fun W=>?_,fun w h j u hu=>?_⟩
 ·rw[run_slice_l (P:=prog) W 101 (some ⟨b,off,none⟩) q c Ik .i64 (k:Int) (by omega) (by omega),Il];simp only[Result.andThen,sliced,Int.toNat_natCast,xl,iU];split<;>rfl
 ·by_cases J:c=k
  ·have:toks.drop k=[]:=List.drop_eq_nil_of_le (by omega);rw[this]at hu;simp at hu
  ·rw[gE J];(have e:toks.flatMap mc=(toks.take k).flatMap mc++(toks.drop k).flatMap mc:=by rw[<-kO,vZ]);(have I:((toks.take k).flatMap mc).length=k*3:=by rw[iF dX,qO];congr 1;omega);have:=h (k*3+j) u (by rw[e,vd (by omega),I,Nat.add_sub_cancel_left];exact hu)
   rwa [<-Nat.add_assoc]at this
def Oj(E:bC)(s:St)(w:World)(r:Option (ByteArray×St))(e:Ending)(w':World):Prop:=
 match r with
 |some (x,s')=>e=.returned (.tuple #[.string x,.bool true])/\au E s' w w'
 |none=>e=.returned (.tuple #[.string ⟨#[]⟩,.bool false])/\au E s w w'
def uH(E:bC):Prop:=∀t∈E.c.toks,t.text.size<=1000000000
theorem BX(c:Cx)(s:St)(D:aR c s ⟨#[114,97,110,103,101]⟩=false)(h:(c.toks.drop s.at_).length<=2\/((c.toks.drop s.at_).getD 0 ⟨0,⟨#[]⟩,0⟩).kind≠1):cO c s=none:=by
 unfold cO;rw[D];simp only[gX,kK];split
 ·rename_i a b d r hl;rw[hl]at h;rcases h with h|h
  ·simp at h
  ·(have h:a.kind≠1:=by simpa using h);rw[gE (by simp[h]),gE (by simp[h])]
 ·rfl
theorem yv(c:Cx)(s:St)(D:aR c s ⟨#[114,97,110,103,101]⟩=false){a b d:cz}{r:List cz}(I:c.toks.drop s.at_=a::b::d::r)(J:a.kind=1):
  cO c s=if a.text≠(⟨#[95]⟩:BA)/\dU ((a::b::d::r).take 3)=a.text++(⟨#[32,58,61,32,114,97,110,103,101]⟩:BA)then some (a.text,{ s with at_:=s.at_+3 })
   else if d.kind=1/\d.text≠(⟨#[95]⟩:BA)/\dU ((a::b::d::r).take 5)=a.text++(⟨#[32,44,32]⟩:BA)++d.text++(⟨#[32,58,61,32,114,97,110,103,101]⟩:BA)then some (a.text++(⟨#[44]⟩:BA)++d.text,{ s with at_:=s.at_+5 })else none:=by unfold cO;rw[D,I];simp only[gX,kK,J,true_and];rfl
end
end Go.Proofs.YtcoiialmdncpfaaGreatDoor
