/-
  Parts of the proof: Words Enc Node Law Shelf4. By an AI agent.
-/
import Derived.Test.YtiebcdeafofgdaaGreatDoorChecked
import Derived.Test.YtiebcdeafofgdaaGreatDoorProg
import Derived.Below
import Derived.Laws.OwnMore
import Derived.Deep.AppendLies
import Derived.Deep.Draws
import Derived.Maps.AppendAt
import Derived.RegionTactic
import Derived.OwnWalk
import Derived.Laws.Rows
import Derived.Deep.Slices
import Derived.Deep.Fields
import Derived.ChangeSame
import Derived.ProofKit
import Derived.OpenShut
import Derived.Deep.DeepHandedRow
import Derived.Lib.LaidTab
import Derived.SizedLaws
import Derived.Shelf.Spec.DecodeRune
import Derived.Shelf.Strings.Replace
import Derived.Shelf.Strings.Builder1
import Derived.Shelf.Small.Utf8
import Derived.Ground.NamesProg
import Derived.Ground.Names7Prog
import Derived.Shelf.Lays
import Derived.Shelf.Lays7
namespace Go.Proofs.YtiebcdeafofgdaaGreatDoor
section
open Go.RowKit
abbrev BA:=ByteArray
theorem pn (a:Addr) (n:Nat):(a.add n).block=a.block:=by unfold Addr.add;split <;> rfl
theorem BN (a:Addr) (i j:Nat):(a.add i).add j=a.add (i+j):=by unfold Addr.add;by_cases I:i=0 <;> by_cases D:j=0 <;> simp [I,D,Nat.add_assoc]
def ce (w:World) (B size:Nat) (A:Option Addr) (n:Nat) (xs:List Value):Prop:=
 xs.length=n * size∧(0<n→∃ ad,A=some ad∧ad.block<B∧∀ j u,xs[j]? = some u→w.cell? (ad.add j)=some u)
section
variable {w w':World} {B B' size n:Nat} {A:Option Addr} {xs:List Value}
theorem ce.at_ {k:Nat} (h:ce w B 1 A n xs) (I:k<n):∃ ad u,A=some ad∧ad.block<B∧xs[k]? = some u∧w.cell? (ad.add k)=some u:=by obtain ⟨ad,e,hb,hc⟩:=h.2 (by omega);(have D:k<xs.length:=by have:=h.1;omega);exact ⟨ad,xs[k],e,hb,List.getElem?_eq_getElem D,hc k _ (List.getElem?_eq_getElem D)⟩
theorem ce.keep (h:ce w B size A n xs) (I:∀ p:Addr,p.block<B→w'.cell? p=w.cell? p):ce w' B size A n xs:=
 ⟨h.1,fun D=>by obtain ⟨ad,e,hb,hc⟩:=h.2 D;exact ⟨ad,e,hb,fun j u hu=>(I _ (by rw [pn];exact hb)).trans (hc j u hu)⟩⟩
theorem ce.below (h:ce w B size A n xs) (hb:Below B w w'):ce w' B size A n xs:=h.keep fun _ hp=>hb.cell hp
theorem ce.drew (h:ce w B size A n xs):ce w.drew B size A n xs:=h
theorem ce.drewN (h:ce w B size A n xs) (k:Nat):ce (w.drewN k) B size A n xs:=h
theorem ce.alloc (h:ce w B size A n xs) (D:B≤w.heap.size) (o:Obj):ce (w.alloc o) B size A n xs:=h.keep fun p hp=>World.cell?_alloc_lt w o p (by omega)
theorem ce.setCell (h:ce w B size A n xs) {p:Addr} (D:B≤p.block) (u:Value):ce (w.setCell p u) B size A n xs:=
 h.keep fun q hq=>World.cell?_setCell_other w p q u (fun e=>by subst e;omega)
theorem ce.grown (h:ce w B size A n xs) {row:Option Nat} (I:w.grownBy w' row) (J:B≤w.heap.size) (D:∀ g,row=some g→B≤g):ce w' B size A n xs:=
 h.keep fun p hp=>World.cell?_of_block (I.block p.block (by omega) (fun e=>by have:=D _ e.symm;omega))
theorem ce.cut (h:ce w B size A n xs) {k cap:Nat} (J:k≤n) (hc:n≤cap) :
  ce w B size (if cap=k then A else A.map (·.add (k * size))) (n-k) (xs.drop (k * size)):=by refine ⟨by rw [List.length_drop,h.1,Nat.sub_mul],fun I=>?_⟩;obtain ⟨ad,rfl,hb,D⟩:=h.2 (by omega);rw [if_neg (by omega)];refine ⟨ad.add (k * size),rfl,by rw [pn];exact hb,fun j u hu=>?_⟩;rw [BN];exact D _ u (by rw [←hu,List.getElem?_drop])
theorem ce.of_own {base:Nat} {e:TypeId} {c:Nat} (h:w.ownsRow base e size (.slice A n c) n xs):ce w w.heap.size size A n xs:=by refine ⟨h.1,fun J=>?_⟩;obtain ⟨g,cap,I,_,D⟩:=h.form J;(have M:A=some ⟨g,0,none⟩:=by injection I);subst M;exact ⟨_,rfl,D,h.cells (g:=g) rfl⟩
end
def aj (w:World) (g:Nat) (t:TypeId) (cs:Array Value):Prop:=w.heap[g]? = some (.cells cs t (0,0))
section
variable {w w':World} {g:Nat} {t:TypeId} {cs:Array Value}
theorem aj.lt (h:aj w g t cs):g<w.heap.size:=by
 rcases Nat.lt_or_ge g w.heap.size with D | hge
 ·exact D
 ·unfold aj at h;rw [Array.getElem?_eq_none hge] at h;cases h
theorem aj.cell (h:aj w g t cs) (i:Nat):w.cell? ⟨g,i,none⟩=cs[i]? := cell_of_row w g i cs t (0,0) h
theorem aj.frozen (h:aj w g t cs) (i:Nat):w.frozen? ⟨g,i,none⟩=false:=by unfold aj at h;simp [World.frozen?,h]
theorem aj.new (w:World) (t:TypeId) (cs:Array Value):aj (w.alloc (.cells cs t)) w.heap.size t cs:=heap_alloc_new w _
theorem aj.drew (h:aj w g t cs):aj w.drew g t cs:=h
theorem aj.drewN (h:aj w g t cs) (n:Nat):aj (w.drewN n) g t cs:=h
theorem aj.alloc (h:aj w g t cs) (o:Obj):aj (w.alloc o) g t cs:=(Below.heap_alloc w o g h.lt).trans h
theorem aj.set_ (h:aj w g t cs) (i:Nat) (u:Value):aj (w.setCell ⟨g,i,none⟩ u) g t (cs.setIfInBounds i u):=by unfold aj at h ⊢;simp [World.setCell,Array.getElem?_modify,h]
theorem aj.far (h:aj w g t cs) {p:Addr} (D:g≠p.block) (u:Value):aj (w.setCell p u) g t cs:=(Below.heap_setCell w p u g D).trans h
theorem aj.below {B:Nat} (h:aj w g t cs) (hb:Below B w w') (D:g<B):aj w' g t cs:=(hb.block g D).trans h
theorem aj.grown {row:Option Nat} (h:aj w g t cs) (hb:w.grownBy w' row) (D:some g≠row):aj w' g t cs:=(hb.block g h.lt D).trans h
end
section
variable {P:Program} (w:World)
theorem po (base:Nat) (t ty e:TypeId) (i:TypeInfo) (size:Nat) (J:P.underlying t=some (.slice e)) (M:P.info? e=some i)
  (v:Value) (n:Nat) (xs:List Value) (D:w.ownsRow base e size v n xs) (c:Nat):(Builtin.append_ #[t,t] ty #[v,.slice none 0 c]).run P w=.ok v w:=by
 rcases D.2 with ⟨rfl,rfl⟩ | ⟨g,cap,cur,rfl,_,_,I,_⟩
 ·simp [Builtin.append_,run_underlying J,sizeOf,typeInfo,M,Builtin.lenOf,Builtin.firstCells]
 ·simp [Builtin.append_,run_underlying J,sizeOf,typeInfo,M,Builtin.lenOf,Builtin.firstCells,I,storeCells]
theorem sF (base:Nat) (t ty e:TypeId) (i:TypeInfo) (z:Value) (size bytes:Nat) (ht:P.underlying t=some (.slice e)) (hi:P.info? e=some i) (hz:i.zero=some z)
  (M:i.size=size) (gb:i.bytes=bytes) (y:z.cells.size=size) (ga:0<size)
  (v:Value) (n:Nat) (xs:List Value) (D:w.ownsRow base e size v n xs)
  (B:Nat) (A:Option Addr) (m c:Nat) (news:List Value) (q:ce w B size A m news) (h1:∀ u∈news,u.oneCell'=true)
  (gd:n+m≤maxLen) (J:(n+m) * bytes≤140737488355328) (N:base≤w.heap.size) :
  ∃ v' w',(Builtin.append_ #[t,t] ty #[v,.slice A m c]).run P w=.ok v' w'∧w'.ownsRow base e size v' (n+m) (xs++news)∧w.grownBy w' v.ownBlock ∧
    (v'.ownBlock=v.ownBlock∨v'.ownBlock=some w.heap.size):=by
 rcases A with _ | ad
 ·have hm:m=0:=by
   rcases Nat.eq_zero_or_pos m with O | O
   ·exact O
   ·obtain ⟨ad,h,_⟩:=q.2 O;cases h
  subst hm;have hn:news=[]:=List.eq_nil_of_length_eq_zero (by simpa using q.1);subst hn;exact ⟨v,w,po w base t ty e i size ht hi v n xs D c,by simpa using D,World.grownBy.refl w _,.inl rfl⟩
 ·have I:∀ j u,news[j]? = some u→w.cell? (ad.add j)=some u:=by
   intro j u hu;rcases Nat.eq_zero_or_pos m with O | O
   ·subst O;have hn:news=[]:=List.eq_nil_of_length_eq_zero (by simpa using q.1);subst hn;simp at hu
   ·obtain ⟨ad',h,_,hc⟩:=q.2 O;injection h with h;subst h;exact hc j u hu
  obtain ⟨v',w',U,h2,h3,_,h5⟩:=run_append_own_at (P:=P) w base t ty e i z size bytes ht hi hz M gb y ga v n xs D ad m c news q.1 I h1 gd J N;exact ⟨v',w',U,h2,h3,h5⟩
theorem oN {o:Oper} {a:Act} {K:Act→World→Prop} {Q:Exit→Act→World→Prop} (s x:Operand) (t:TypeId)
  (ho:o.op=.call { callee:=.builtin .append,args:=#[s,x],argTypes:=#[t,t] })
  (base:Nat) (e:TypeId) (i:TypeInfo) (z:Value) (size bytes:Nat) (ht:P.underlying t=some (.slice e)) (hi:P.info? e=some i) (hz:i.zero=some z)
  (I:i.size=size) (q:i.bytes=bytes) (O:z.cells.size=size) (U:0<size)
  (v:Value) (n:Nat) (xs:List Value) (hs:a.eval s=v) (N:w.ownsRow base e size v n xs)
  (B:Nat) (A:Option Addr) (m c:Nat) (news:List Value) (hx:a.eval x=.slice A m c) (hr:ce w B size A m news) (h1:∀ u∈news,u.oneCell'=true)
  (y:n+m≤maxLen) (D:(n+m) * bytes≤140737488355328) (J:base≤w.heap.size)
  (h:∀ v' w',w'.ownsRow base e size v' (n+m) (xs++news)→w.grownBy w' v.ownBlock→(v'.ownBlock=v.ownBlock∨v'.ownBlock=some w.heap.size)→K (a.put o.dst v') w'):o.wp P a w K Q:=by obtain ⟨v',w',M,h2,h3,h4⟩:=sF (P:=P) w base t o.type e i z size bytes ht hi hz I q O U v n xs N B A m c news hr h1 y D J;unfold Oper.wp execOp;simp only [ho,resolve,invoke,builtin,Sem.run_bind,Sem.run_pure,Result.andThen_ok,List.map_toArray,List.map_cons,List.map_nil,hs,hx,M];exact h v' w' h2 h3 h4
theorem lV {ops:Array Oper} {rest:List Oper} {o:Oper} {a:Act} {Q:Exit→Act→World→Prop} (U:o.guard=none) (s x:Operand) (t:TypeId)
  (ho:o.op=.call { callee:=.builtin .append,args:=#[s,x],argTypes:=#[t,t] })
  (base:Nat) (e:TypeId) (i:TypeInfo) (z:Value) (size bytes:Nat) (ht:P.underlying t=some (.slice e)) (hi:P.info? e=some i) (hz:i.zero=some z)
  (I:i.size=size) (q:i.bytes=bytes) (N:z.cells.size=size) (O:0<size)
  (v:Value) (n:Nat) (xs:List Value) (hs:a.eval s=v) (M:w.ownsRow base e size v n xs)
  (B:Nat) (A:Option Addr) (m c:Nat) (news:List Value) (hx:a.eval x=.slice A m c) (hr:ce w B size A m news) (h1:∀ u∈news,u.oneCell'=true)
  (y:n+m≤maxLen) (D:(n+m) * bytes≤140737488355328) (J:base≤w.heap.size)
  (h:∀ v' w',w'.ownsRow base e size v' (n+m) (xs++news)→w.grownBy w' v.ownBlock→(v'.ownBlock=v.ownBlock∨v'.ownBlock=some w.heap.size)→wpList P ops Q rest (a.put o.dst v') w'):wpList P ops Q (o::rest) a w:=
 wpList_plain U fun _ hK=>oN w s x t ho base e i z size bytes ht hi hz I q N O v n xs hs M B A m c news hx hr h1 y D J fun v' w' h2 h3 h4=>hK _ _ (h v' w' h2 h3 h4)
theorem ee {ops:Array Oper} {o:Oper} {a:Act} {K:Act→World→Prop} {Q:Exit→Act→World→Prop} {E:Prop} (U:o.guard=none) (s x:Operand) (t:TypeId)
  (ho:o.op=.call { callee:=.builtin .append,args:=#[s,x],argTypes:=#[t,t] })
  (base:Nat) (e:TypeId) (i:TypeInfo) (z:Value) (size bytes:Nat) (ht:P.underlying t=some (.slice e)) (hi:P.info? e=some i) (hz:i.zero=some z)
  (I:i.size=size) (q:i.bytes=bytes) (N:z.cells.size=size) (O:0<size)
  (v:Value) (n:Nat) (xs:List Value) (hs:a.eval s=v) (M:w.ownsRow base e size v n xs)
  (B:Nat) (A:Option Addr) (m c:Nat) (news:List Value) (hx:a.eval x=.slice A m c) (hr:ce w B size A m news) (h1:∀ u∈news,u.oneCell'=true)
  (y:n+m≤maxLen) (D:(n+m) * bytes≤140737488355328) (J:base≤w.heap.size)
  (h:∀ v' w',w'.ownsRow base e size v' (n+m) (xs++news)→w.grownBy w' v.ownBlock→(v'.ownBlock=v.ownBlock∨v'.ownBlock=some w.heap.size)→K (a.put o.dst v') w') :
  if Region.wanted o (yielded ops a.tmps)=true then Oper.wp P o a w K Q else E:=by (have hw:Region.wanted o (yielded ops a.tmps)=true:=by simp [Region.wanted,U]);rw [if_pos hw];exact oN w s x t ho base e i z size bytes ht hi hz I q N O v n xs hs M B A m c news hx hr h1 y D J h
end
section
variable {α:Type} {enc:α→List Value} {sz:Nat}
theorem sG (hs:∀ x,(enc x).length=sz) (xs:List α):(xs.flatMap enc).length=xs.length * sz:=by
 induction xs with
 | nil=>simp
 | cons x xs ih=>simp [List.flatMap_cons,ih,hs,Nat.add_mul,Nat.add_comm]
theorem iH (hs:∀ x,(enc x).length=sz):∀ (xs:List α) (i j:Nat) (h:i<xs.length),j<sz→(xs.flatMap enc)[i * sz+j]? = (enc xs[i])[j]?
 | [],i,j,h,_=>by simp at h
 | x::xs,0,j,_,D=>by rw [List.flatMap_cons,List.getElem?_append_left (by rw [hs];omega)];simp
 | x::xs,i+1,j,h,D=>by
  (have h':i<xs.length:=by simpa using h);rw [List.flatMap_cons,List.getElem?_append_right (by rw [hs,Nat.add_mul];omega),hs,Nat.add_mul,Nat.one_mul,
   show i * sz+sz+j-sz=i * sz+j by omega,iH hs xs i j h' D]
  simp
theorem pq {w:World} {a:Addr} {v:Value} (h:w.cell? a=some v):a=⟨a.block,a.off,none⟩:=by
 obtain ⟨b,o,s⟩:=a;cases s with
 | none=>rfl
 | some s=>unfold World.cell? at h;simp at h;split at h <;> simp at h
theorem nD (b o i:Nat):(⟨b,o,none⟩:Addr).add i=⟨b,o+i,none⟩:=by
 unfold Addr.add;split
 ·rename_i h;subst h;rfl
 ·rfl
theorem fw (w:World) (b o:Nat) (v:Value):w.grownBy (w.setCell ⟨b,o,none⟩ v) (some b):=
 ⟨rfl,rfl,rfl,by simp [World.setCell],fun k _ hne=>Below.heap_setCell w ⟨b,o,none⟩ v k (fun e=>hne (by rw [e]))⟩
theorem dv {w w':World} {b B:Nat} (h:w.grownBy w' (some b)) (hb:B≤b) (D:B≤w.heap.size):Below B w w':=
 ⟨h.os,h.tape,h.output,h.size,fun k hk=>h.block k (by omega) (fun e=>by injection e with e;omega)⟩
theorem ai {w w':World} (r:Option Nat) (h:Below w.heap.size w w'):w.grownBy w' r:=⟨h.os,h.tape,h.output,h.size,fun k hk _=>h.block k hk⟩
theorem aj.new_at {w:World} {n:Nat} (h:w.heap.size=n) (t:TypeId) (cs:Array Value):aj (w.alloc (.cells cs t)) n t cs:=by subst h;exact aj.new w t cs
theorem ce.el {w:World} {B n:Nat} {A:Option Addr} {xs:List α} (h:ce w B sz A n (xs.flatMap enc)) (hs:∀ x,(enc x).length=sz) (q:0<sz) (y:xs.length=n) {i:Nat} (z:i<n) :
  ∃ b off,A=some ⟨b,off,none⟩∧b<B∧∀ k (J:k<xs.length) j u,(enc xs[k])[j]? = some u→w.cell? ⟨b,off+k * sz+j,none⟩=some u:=by obtain ⟨ad,U,hb,hc⟩:=h.2 (by omega);(have key:∀ k (J:k<xs.length) j u,(enc xs[k])[j]? = some u→w.cell? (ad.add (k * sz+j))=some u:=by intro k J j u I;(have O:j<sz:=by have:=(List.getElem?_eq_some_iff.1 I).1;rw [hs] at this;exact this);exact hc _ u (by rw [iH hs xs k j J O];exact I));have N:∃ u,(enc (xs[0]'(by omega)))[0]? = some u:=⟨(enc (xs[0]'(by omega)))[0]'(by rw [hs];exact q),List.getElem?_eq_getElem _⟩;obtain ⟨u,I⟩:=N;have D:=key 0 (by omega) 0 u I;rw [show 0 * sz+0=0 by omega,show ad.add 0=ad from rfl] at D;have D:=pq D;obtain ⟨b,o,s⟩:=ad;(have M:s=none:=by simpa using D);subst M;refine ⟨b,o,U,hb,fun k J j u I=>?_⟩;have:=key k J j u I;rw [nD,←Nat.add_assoc] at this;exact this
theorem sH {w:World} {g n B size:Nat} {t:TypeId} {fr:Nat × Nat} {cs:List Value} (h:w.heap[g]? = some (.cells cs.toArray t fr)) (D:cs.length=n * size) (I:g<B):ce w B size (some ⟨g,0,none⟩) n cs:=
 ⟨D,fun _=>⟨_,rfl,I,fun j u hu=>World.news_of_block h j u (by simpa using hu)⟩⟩
theorem rP {w:World} {n:Nat} (h:w.heap.size=n) (o:Obj):(w.alloc o).heap[n]? = some o:=by subst h;exact heap_alloc_new w o
theorem ce.len {w:World} {B n:Nat} {A:Option Addr} {xs:List α} (h:ce w B sz A n (xs.flatMap enc)) (hs:∀ x,(enc x).length=sz) (D:0<sz):xs.length=n:=by have:=h.1;rw [sG hs] at this;exact Nat.eq_of_mul_eq_mul_right D this
end
inductive Nd where
 | mk (kind:Int) (text:ByteArray) (kids:List Nd) (pos:Int)
namespace Nd
def kind:Nd→Int | .mk k _ _ _=>k
def text:Nd→ByteArray | .mk _ t _ _=>t
def kids:Nd→List Nd | .mk _ _ l _=>l
def pos:Nd→Int | .mk _ _ _ a=>a
@[simp] theorem kind_mk (k t l a):(Nd.mk k t l a).kind=k:=rfl
@[simp] theorem text_mk (k t l a):(Nd.mk k t l a).text=t:=rfl
@[simp] theorem kids_mk (k t l a):(Nd.mk k t l a).kids=l:=rfl
@[simp] theorem pos_mk (k t l a):(Nd.mk k t l a).pos=a:=rfl
end Nd
def bJ:Nd:=.mk 0 ⟨#[]⟩ [] 0
def ez (X:Nat→Prop) (w:World) (size:Nat) (A:Option Addr) (n:Nat) (xs:List Value):Prop:=
 xs.length=n * size∧(0<n→∃ b off,A=some ⟨b,off,none⟩∧X b∧∀ j u,xs[j]? = some u→w.cell? ⟨b,off+j,none⟩=some u)
mutual
def bD (X:Nat→Prop) (w:World):Nd→List Value→Prop
 | .mk k t l a,cs=>∃ A cap xs,cs=[.int .i64 k,.string t,.slice A l.length cap,.int .i64 a]∧l.length≤cap∧ez X w 4 A l.length xs∧ak X w l xs
def ak (X:Nat→Prop) (w:World):List Nd→List Value→Prop
 | [],xs=>xs=[]
 | n::l,xs=>∃ ys zs,xs=ys++zs∧bD X w n ys∧ak X w l zs
end
section
variable {X Y:Nat→Prop} {w w':World}
theorem ez.mono {size n:Nat} {A:Option Addr} {xs:List Value} (D:∀ b,X b→b<w.heap.size→Y b) (h:ez X w size A n xs) (hs:0<size):ez Y w size A n xs:=
 ⟨h.1,fun I=>by obtain ⟨b,off,e,hb,hc⟩:=h.2 I;(have J:0<xs.length:=by rw [h.1];exact Nat.mul_pos I hs);have M:=hc 0 xs[0] (List.getElem?_eq_getElem J);exact ⟨b,off,e,D b hb (World.block_lt_of_cell? w _ M),hc⟩⟩
theorem ez.keep {size n:Nat} {A:Option Addr} {xs:List Value} (M:∀ b,X b→b<w.heap.size→w'.heap[b]? = w.heap[b]?) (h:ez X w size A n xs):ez X w' size A n xs:=
 ⟨h.1,fun J=>by obtain ⟨b,off,e,hb,hc⟩:=h.2 J;refine ⟨b,off,e,hb,fun j u hu=>?_⟩;have I:=hc j u hu;have D:=World.block_lt_of_cell? w _ I;exact (World.cell?_of_block (a:=⟨b,off+j,none⟩) (M b hb D)).trans I⟩
mutual
theorem bD.mono (D:∀ b,X b→b<w.heap.size→Y b):∀ (n:Nd) (cs:List Value),bD X w n cs→bD Y w n cs
 | .mk k t l a,cs,h=>by unfold bD at h ⊢;obtain ⟨A,cap,xs,e,M,I,J⟩:=h;exact ⟨A,cap,xs,e,M,I.mono D (by omega),ak.mono D l xs J⟩
theorem ak.mono (D:∀ b,X b→b<w.heap.size→Y b):∀ (l:List Nd) (xs:List Value),ak X w l xs→ak Y w l xs
 | [],xs,h=>by unfold ak at h ⊢;exact h
 | n::l,xs,h=>by unfold ak at h ⊢;obtain ⟨ys,zs,e,J,I⟩:=h;exact ⟨ys,zs,e,bD.mono D n ys J,ak.mono D l zs I⟩
end
mutual
theorem bD.keep (D:∀ b,X b→b<w.heap.size→w'.heap[b]? = w.heap[b]?):∀ (n:Nd) (cs:List Value),bD X w n cs→bD X w' n cs
 | .mk k t l a,cs,h=>by unfold bD at h ⊢;obtain ⟨A,cap,xs,e,M,I,J⟩:=h;exact ⟨A,cap,xs,e,M,I.keep D,ak.keep D l xs J⟩
theorem ak.keep (D:∀ b,X b→b<w.heap.size→w'.heap[b]? = w.heap[b]?):∀ (l:List Nd) (xs:List Value),ak X w l xs→ak X w' l xs
 | [],xs,h=>by unfold ak at h ⊢;exact h
 | n::l,xs,h=>by unfold ak at h ⊢;obtain ⟨ys,zs,e,J,I⟩:=h;exact ⟨ys,zs,e,bD.keep D n ys J,ak.keep D l zs I⟩
end
theorem bD.len {n:Nd} {cs:List Value} (h:bD X w n cs):cs.length=4:=by cases n;unfold bD at h;obtain ⟨A,cap,xs,e,_⟩:=h;simp [e]
theorem ak.len:∀ {l:List Nd} {xs:List Value},ak X w l xs→xs.length=l.length * 4
 | [],xs,h=>by unfold ak at h;simp [h]
 | n::l,xs,h=>by unfold ak at h;obtain ⟨ys,zs,rfl,I,D⟩:=h;rw [List.length_append,I.len,D.len,List.length_cons];omega
theorem ak.nil:ak X w [] []:=by unfold ak;rfl
theorem ak.cons {n:Nd} {l:List Nd} {ys zs:List Value} (I:bD X w n ys) (D:ak X w l zs):ak X w (n::l) (ys++zs):=by unfold ak;exact ⟨ys,zs,rfl,I,D⟩
theorem ak.one {n:Nd} {ys:List Value} (D:bD X w n ys):ak X w [n] ys:=by
 have:=ak.cons D (ak.nil (X:=X) (w:=w))
 rwa [List.append_nil] at this
theorem ak.app:∀ {l m:List Nd} {xs ys:List Value},ak X w l xs→ak X w m ys→ak X w (l++m) (xs++ys)
 | [],m,xs,ys,D,I=>by unfold ak at D;subst D;exact I
 | n::l,m,xs,ys,D,I=>by unfold ak at D;obtain ⟨us,bs,rfl,M,J⟩:=D;rw [List.append_assoc];exact ak.cons M (ak.app J I)
theorem ak.get:∀ {l:List Nd} {xs:List Value} (i:Nat) (D:i<l.length),ak X w l xs→∃ ys,bD X w l[i] ys∧(∀ j,j<4→xs[i * 4+j]? = ys[j]?)
 | [],xs,i,D,h=>absurd D (by simp)
 | n::l,xs,0,D,h=>by unfold ak at h;obtain ⟨ys,zs,rfl,I,J⟩:=h;refine ⟨ys,I,fun j hj=>?_⟩;rw [List.getElem?_append_left (by rw [I.len];omega)];simp
 | n::l,xs,i+1,D,h=>by unfold ak at h;obtain ⟨ys,zs,rfl,I,J⟩:=h;obtain ⟨us,N,M⟩:=ak.get i (by simpa using D) J;refine ⟨us,N,fun j hj=>?_⟩;rw [List.getElem?_append_right (by rw [I.len];omega),I.len,show (i+1) * 4+j-4=i * 4+j by omega];exact M j hj
theorem ak.split:∀ {l:List Nd} {xs:List Value} (k:Nat),ak X w l xs→ak X w (l.take k) (xs.take (k * 4))∧ak X w (l.drop k) (xs.drop (k * 4))
 | l,xs,0,h=>by simpa using ⟨ak.nil,h⟩
 | [],xs,k+1,h=>by unfold ak at h;subst h;constructor <;> simpa using ak.nil
 | n::l,xs,k+1,h=>by unfold ak at h;obtain ⟨ys,zs,rfl,D,M⟩:=h;obtain ⟨J,I⟩:=ak.split k M;(have O:(ys++zs).take ((k+1) * 4)=ys++zs.take (k * 4):=by rw [List.take_append,D.len,List.take_of_length_le (by rw [D.len];omega),show (k+1) * 4-4=k * 4 by omega]);(have N:(ys++zs).drop ((k+1) * 4)=zs.drop (k * 4):=by rw [List.drop_append,D.len,List.drop_of_length_le (by rw [D.len];omega),show (k+1) * 4-4=k * 4 by omega,List.nil_append]);rw [O,N,List.take_succ_cons,List.drop_succ_cons];exact ⟨ak.cons D J,I⟩
def av (X:Nat→Prop) (w:World) (v:Value) (n:Nd):Prop:=
 ∃ A cap xs,v=.agg #[.int .i64 n.kind,.string n.text,.slice A n.kids.length cap,.int .i64 n.pos]∧n.kids.length≤cap∧ez X w 4 A n.kids.length xs∧ak X w n.kids xs
theorem av.toC {v:Value} {n:Nd} (h:av X w v n):∃ A cap,v=.agg #[.int .i64 n.kind,.string n.text,.slice A n.kids.length cap,.int .i64 n.pos]∧bD X w n [.int .i64 n.kind,.string n.text,.slice A n.kids.length cap,.int .i64 n.pos]:=by obtain ⟨A,cap,xs,e,J,I,D⟩:=h;refine ⟨A,cap,e,?_⟩;cases n;unfold bD;exact ⟨A,cap,xs,rfl,J,I,D⟩
theorem bD.toV {n:Nd} {cs:List Value} (h:bD X w n cs):∃ A cap xs,cs=[.int .i64 n.kind,.string n.text,.slice A n.kids.length cap,.int .i64 n.pos]∧n.kids.length≤cap∧ez X w 4 A n.kids.length xs∧ak X w n.kids xs:=by cases n;unfold bD at h;exact h
theorem av.mono {v:Value} {n:Nd} (D:∀ b,X b→b<w.heap.size→Y b) (h:av X w v n):av Y w v n:=by obtain ⟨A,cap,xs,e,M,J,I⟩:=h;exact ⟨A,cap,xs,e,M,J.mono D (by omega),I.mono D⟩
theorem av.keep {v:Value} {n:Nd} (D:∀ b,X b→b<w.heap.size→w'.heap[b]? = w.heap[b]?) (h:av X w v n):av X w' v n:=by obtain ⟨A,cap,xs,e,M,J,I⟩:=h;exact ⟨A,cap,xs,e,M,J.keep D,I.keep D⟩
theorem av.zero:av X w (.agg #[.int .i64 0,.string ⟨#[]⟩,.slice none 0 0,.int .i64 0]) bJ:=
 ⟨none,0,[],rfl,Nat.le_refl _,⟨rfl,fun h=>absurd h (by simp [bJ])⟩,ak.nil⟩
end
abbrev nv (n:Nd) (A:Option Addr) (c:Nat):Array Value:=#[.int .i64 n.kind,.string n.text,.slice A n.kids.length c,.int .i64 n.pos]
end
section
open Go.ChangeShapes Go.WideShapes Go.ChangeAt Go.RowKit
theorem GR:laidOutB Tryz.prog=true:=by kernel_rfl
theorem own:ownKnob Tryz.prog.godebug=none:=by kernel_rfl
section
variable {H:Type} {enc:TypeId × Value→H}
theorem oO {W W':World} (hb:Below W.heap.size W W'):∀ {ts:List TypeId} {vs:List Value} {ds:List (DataW H)} {ps:List MemPlace},(∀ t∈ts,Tryz.prog.readableRec t=true∧t<Tryz.prog.types.size) →
  DataW.TrodAll enc Tryz.prog W 0 (fun _=>true) true ts vs ds ps→(∀ x∈ps,x.block<W.heap.size)→DataW.TrodAll enc Tryz.prog W' 0 (fun b=>decide (b<W.heap.size)) true ts vs ds ps
 | [],vs,ds,ps,_,h,_=>by obtain ⟨rfl,rfl,rfl⟩:=trodAll_nil h;exact trodAll_mk0
 | t::ts,vs,ds,ps,I,h,J=>by obtain ⟨v,vs',d,ds',p,q,rfl,rfl,rfl,N,M⟩:=trodAll_cons h;have D:=I t (by simp);exact trodAll_cons_mk (Below.trod GR D.1 D.2 N hb (fun x hx=>J x (by simp [hx]))) (oO hb (fun t' ht'=>I t' (by simp [ht'])) M (fun x hx=>J x (by simp [hx])))
theorem sI {fn:Func} {s:ChangeSpec} {W W':World} {args:Array Value} {ds gs:List (DataW H)} {before:List MemPlace} {fresh handsOn:Bool}
  (hW:DataW.Whole enc Tryz.prog fn.params.toList s.vars false W args.toList ds gs before) (U:s.vars=[])
  (J:(s.fn H (ds++[])).results=[.lit (.bool true)]) (I:(s.fn H (ds++[])).args=ds) (D:(s.fn H (ds++[])).vars=[])
  (M:fn.resultTypes = #[4]) (z:∀ t∈fn.params.toList,Tryz.prog.readableRec t=true∧t<Tryz.prog.types.size) (hb:Below W.heap.size W W') :
  s.post enc Tryz.prog fn false fresh handsOn false W args (.bool true) W':=by
 have N:=hW.lt;have O:=hW;obtain ⟨p,q,hA,y,rfl,gb,ga⟩:=hW;rw [U] at y;obtain ⟨rfl,rfl⟩:=trodVars_none y;refine ⟨ds,[],p++[],[],p,[],O,?_,?_,?_,hb.frame _,fun h=>by cases h⟩
 ·rw [J,M];exact trodAll_cons_mk (shut_bool Tryz.underlying4 true) trodAll_mk0
 ·rw [I];exact oO hb z hA (fun x hx=>N x (by simp [hx]))
 ·rw [U,D];rfl
end
end
end Go.Proofs.YtiebcdeafofgdaaGreatDoor
namespace Go.Proofs
section
open Go.Shelf
def Tryz.laysDecode_ren:Go.Shelf.Ren:=⟨fun | 32=>94 | 49=>140 | n=>n,fun | 30=>27 | 21=>21 | 3=>3 | 0=>0 | 5=>5 | 4=>4 | 33=>99 | 66=>149 | 25=>150 | 69=>153 | 68=>152 | n=>n,fun | 2=>0 | 3=>1 | n=>n⟩
theorem Tryz.laysDecode:Go.Proofs.Lays7.n32 Tryz.prog Tryz.laysDecode_ren := {
 mixed:=by kernel_rfl
 f32:=Tryz.func94.trans (congrArg some (by kernel_rfl))
 f49:=Tryz.func140.trans (congrArg some (by kernel_rfl))
 t0:=Tryz.underlying0
 a0:=Tryz.isAgg0
 z0:=Tryz.sizeOf0
 v0:=Tryz.zeroValue0
 i0:=by kernel_rfl
 t3:=Tryz.underlying3
 a3:=Tryz.isAgg3
 z3:=Tryz.sizeOf3
 v3:=Tryz.zeroValue3
 i3:=by kernel_rfl
 t4:=Tryz.underlying4
 a4:=Tryz.isAgg4
 z4:=Tryz.sizeOf4
 v4:=Tryz.zeroValue4
 i4:=by kernel_rfl
 t5:=Tryz.underlying5
 a5:=Tryz.isAgg5
 z5:=Tryz.sizeOf5
 v5:=Tryz.zeroValue5
 i5:=by kernel_rfl
 t21:=Tryz.underlying21
 a21:=Tryz.isAgg21
 z21:=Tryz.sizeOf21
 v21:=Tryz.zeroValue21
 i21:=by kernel_rfl
 t25:=Tryz.underlying150
 a25:=Tryz.isAgg150
 z25:=Tryz.sizeOf150
 v25:=Tryz.zeroValue150
 i25:=by kernel_rfl
 t30:=Tryz.underlying27
 a30:=Tryz.isAgg27
 z30:=Tryz.sizeOf27
 v30:=Tryz.zeroValue27
 i30:=by kernel_rfl
 t33:=Tryz.underlying99
 a33:=Tryz.isAgg99
 z33:=Tryz.sizeOf99
 v33:=Tryz.zeroValue99
 i33:=by kernel_rfl
 t66:=Tryz.underlying149
 a66:=Tryz.isAgg149
 z66:=Tryz.sizeOf149
 t68:=Tryz.underlying152
 a68:=Tryz.isAgg152
 z68:=Tryz.sizeOf152
 v68:=Tryz.zeroValue152
 i68:=by kernel_rfl
 t69:=Tryz.underlying153
 a69:=Tryz.isAgg153
 z69:=Tryz.sizeOf153
 v69:=Tryz.zeroValue153
 i69:=by kernel_rfl
 g2:=by kernel_rfl
 g3:=by kernel_rfl }
def Tryz.laysReplace_ren:Go.Shelf.Ren:=⟨fun | 155=>116 | 154=>150 | 138=>199 | 165=>200 | 143=>108 | 166=>146 | 197=>201 | 169=>148 | 195=>227 | 218=>228 | 240=>197 | 241=>229 | 219=>144 | 260=>230 | 276=>226 | 277=>239 | 217=>149 | 225=>191 | 224=>192 | 267=>193 | 266=>198 | 314=>225 | n=>n,fun | 9=>9 | 3=>3 | 4=>4 | 72=>129 | 0=>0 | 76=>134 | 105=>99 | 21=>21 | 5=>5 | 70=>127 | 20=>20 | 37=>27 | 75=>133 | 127=>159 | 164=>177 | 46=>150 | 119=>149 | 139=>153 | 138=>152 | 146=>175 | 51=>174 | 80=>78 | n=>n,fun | 1=>2 | 3=>0 | 4=>1 | n=>n⟩
theorem Tryz.laysReplace:Go.Proofs.Lays.n155 Tryz.prog Tryz.laysReplace_ren := {
 mixed:=by kernel_rfl
 f138:=Tryz.func199.trans (congrArg some (by kernel_rfl))
 f143:=Tryz.func108.trans (congrArg some (by kernel_rfl))
 f154:=Tryz.func150.trans (congrArg some (by kernel_rfl))
 f155:=Tryz.func116.trans (congrArg some (by kernel_rfl))
 f165:=Tryz.func200.trans (congrArg some (by kernel_rfl))
 f166:=Tryz.func146.trans (congrArg some (by kernel_rfl))
 f169:=Tryz.func148.trans (congrArg some (by kernel_rfl))
 f195:=Tryz.func227.trans (congrArg some (by kernel_rfl))
 f197:=Tryz.func201.trans (congrArg some (by kernel_rfl))
 f217:=Tryz.func149.trans (congrArg some (by kernel_rfl))
 f218:=Tryz.func228.trans (congrArg some (by kernel_rfl))
 f219:=Tryz.func144.trans (congrArg some (by kernel_rfl))
 f224:=Tryz.func192.trans (congrArg some (by kernel_rfl))
 f225:=Tryz.func191.trans (congrArg some (by kernel_rfl))
 f240:=Tryz.func197.trans (congrArg some (by kernel_rfl))
 f241:=Tryz.func229.trans (congrArg some (by kernel_rfl))
 f260:=Tryz.func230.trans (congrArg some (by kernel_rfl))
 f266:=Tryz.func198.trans (congrArg some (by kernel_rfl))
 f267:=Tryz.func193.trans (congrArg some (by kernel_rfl))
 f276:=Tryz.func226.trans (congrArg some (by kernel_rfl))
 f277:=Tryz.func239.trans (congrArg some (by kernel_rfl))
 f314:=Tryz.func225.trans (congrArg some (by kernel_rfl))
 t0:=Tryz.underlying0
 a0:=Tryz.isAgg0
 z0:=Tryz.sizeOf0
 v0:=Tryz.zeroValue0
 t3:=Tryz.underlying3
 a3:=Tryz.isAgg3
 z3:=Tryz.sizeOf3
 v3:=Tryz.zeroValue3
 t4:=Tryz.underlying4
 a4:=Tryz.isAgg4
 z4:=Tryz.sizeOf4
 v4:=Tryz.zeroValue4
 t5:=Tryz.underlying5
 a5:=Tryz.isAgg5
 z5:=Tryz.sizeOf5
 v5:=Tryz.zeroValue5
 t9:=Tryz.underlying9
 a9:=Tryz.isAgg9
 z9:=Tryz.sizeOf9
 v9:=Tryz.zeroValue9
 t20:=Tryz.underlying20
 a20:=Tryz.isAgg20
 z20:=Tryz.sizeOf20
 v20:=Tryz.zeroValue20
 t21:=Tryz.underlying21
 a21:=Tryz.isAgg21
 z21:=Tryz.sizeOf21
 v21:=Tryz.zeroValue21
 t37:=Tryz.underlying27
 a37:=Tryz.isAgg27
 z37:=Tryz.sizeOf27
 v37:=Tryz.zeroValue27
 t46:=Tryz.underlying150
 a46:=Tryz.isAgg150
 z46:=Tryz.sizeOf150
 v46:=Tryz.zeroValue150
 t51:=Tryz.underlying174
 a51:=Tryz.isAgg174
 z51:=Tryz.sizeOf174
 v51:=Tryz.zeroValue174
 t70:=Tryz.underlying127
 a70:=Tryz.isAgg127
 z70:=Tryz.sizeOf127
 v70:=Tryz.zeroValue127
 t72:=Tryz.underlying129
 a72:=Tryz.isAgg129
 z72:=Tryz.sizeOf129
 v72:=Tryz.zeroValue129
 t75:=Tryz.underlying133
 a75:=Tryz.isAgg133
 z75:=Tryz.sizeOf133
 v75:=Tryz.zeroValue133
 t76:=Tryz.underlying134
 a76:=Tryz.isAgg134
 z76:=Tryz.sizeOf134
 v76:=Tryz.zeroValue134
 t105:=Tryz.underlying99
 a105:=Tryz.isAgg99
 z105:=Tryz.sizeOf99
 v105:=Tryz.zeroValue99
 t119:=Tryz.underlying149
 a119:=Tryz.isAgg149
 z119:=Tryz.sizeOf149
 t127:=Tryz.underlying159
 a127:=Tryz.isAgg159
 z127:=Tryz.sizeOf159
 v127:=Tryz.zeroValue159
 t138:=Tryz.underlying152
 a138:=Tryz.isAgg152
 z138:=Tryz.sizeOf152
 v138:=Tryz.zeroValue152
 t139:=Tryz.underlying153
 a139:=Tryz.isAgg153
 z139:=Tryz.sizeOf153
 v139:=Tryz.zeroValue153
 t146:=Tryz.underlying175
 a146:=Tryz.isAgg175
 z146:=Tryz.sizeOf175
 v146:=Tryz.zeroValue175
 t164:=Tryz.underlying177
 a164:=Tryz.isAgg177
 z164:=Tryz.sizeOf177
 v164:=Tryz.zeroValue177
 g1:=by kernel_rfl
 g3:=by kernel_rfl
 g4:=by kernel_rfl }
def Tryz.laysBString_ren:Go.Shelf.Ren:=⟨fun | 169=>148 | n=>n,fun | 70=>127 | 9=>9 | 0=>0 | 72=>129 | 37=>27 | 127=>159 | 3=>3 | 5=>5 | n=>n,fun | n=>n⟩
theorem Tryz.laysBString:Go.Proofs.Lays.n169 Tryz.prog Tryz.laysBString_ren := {
 mixed:=by kernel_rfl
 f169:=Tryz.func148.trans (congrArg some (by kernel_rfl))
 t0:=Tryz.underlying0
 a0:=Tryz.isAgg0
 z0:=Tryz.sizeOf0
 v0:=Tryz.zeroValue0
 t3:=Tryz.underlying3
 a3:=Tryz.isAgg3
 z3:=Tryz.sizeOf3
 v3:=Tryz.zeroValue3
 t9:=Tryz.underlying9
 a9:=Tryz.isAgg9
 z9:=Tryz.sizeOf9
 v9:=Tryz.zeroValue9
 t37:=Tryz.underlying27
 a37:=Tryz.isAgg27
 z37:=Tryz.sizeOf27
 v37:=Tryz.zeroValue27
 t70:=Tryz.underlying127
 a70:=Tryz.isAgg127
 z70:=Tryz.sizeOf127
 v70:=Tryz.zeroValue127
 t72:=Tryz.underlying129
 a72:=Tryz.isAgg129
 z72:=Tryz.sizeOf129
 v72:=Tryz.zeroValue129
 t127:=Tryz.underlying159
 a127:=Tryz.isAgg159
 z127:=Tryz.sizeOf159
 v127:=Tryz.zeroValue159 }
def Tryz.laysValid_ren:Go.Shelf.Ren:=⟨fun | 119=>196 | n=>n,fun | 21=>21 | 4=>4 | n=>n,fun | n=>n⟩
theorem Tryz.laysValid:Go.Proofs.Lays.n119 Tryz.prog Tryz.laysValid_ren := {
 mixed:=by kernel_rfl
 f119:=Tryz.func196.trans (congrArg some (by kernel_rfl))
 t4:=Tryz.underlying4
 a4:=Tryz.isAgg4
 z4:=Tryz.sizeOf4
 v4:=Tryz.zeroValue4
 t21:=Tryz.underlying21
 a21:=Tryz.isAgg21
 z21:=Tryz.sizeOf21
 v21:=Tryz.zeroValue21 }
theorem Tryz.xReplace:Builder.Extra Tryz.prog Tryz.laysReplace_ren := {
 sizeBuilder:=by kernel_rfl
 liesBuilder:=by kernel_rfl
 t5:=Tryz.underlying5
 a5:=Tryz.isAgg5
 z5:=Tryz.sizeOf5
 v5:=Tryz.zeroValue5
 infoByte:=by kernel_rfl
 cellsByte:=by kernel_rfl
 sizeByte:=by kernel_rfl
 neB5:=by decide }
theorem Tryz.xBString:Builder.Extra Tryz.prog Tryz.laysBString_ren := {
 sizeBuilder:=by kernel_rfl
 liesBuilder:=by kernel_rfl
 t5:=Tryz.underlying5
 a5:=Tryz.isAgg5
 z5:=Tryz.sizeOf5
 v5:=Tryz.zeroValue5
 infoByte:=by kernel_rfl
 cellsByte:=by kernel_rfl
 sizeByte:=by kernel_rfl
 neB5:=by decide }
end
end Go.Proofs
