/- A part of the proof. No condition. -/
import Derived.WalkKit
import Derived.ProofKit
import Derived.OpenShut
import Derived.JoinedCond
import Derived.Deep.Slices
import Derived.Carry
import Derived.Laws.Cover3
import Derived.MapKept
import Derived.Laws.CopyRow
set_option linter.unusedVariables false
set_option linter.unusedSimpArgs false
namespace Go.Aw
open Go.RowKit (Below)
structure Ghost where
  B:Nat
  w0:World
  com:Nat→Nat→Option Value
  loc:Nat→Option (Nat×Nat×Nat)
  next:Nat
structure Ghost.le (g g':Ghost):Prop where
  B:g'.B=g.B
  w0:g'.w0=g.w0
  com: ∀ b o v,g.com b o=some v→g'.com b o=some v
  loc: ∀ i x,g.loc i=some x→g'.loc i=some x
  next:g.next≤g'.next
theorem Ghost.le.refl (g:Ghost):g.le g:=⟨rfl,rfl,fun _ _ _ h=>h,fun _ _ h=>h,Nat.le_refl _⟩
theorem Ghost.le.trans {a b c:Ghost} (h:a.le b) (k:b.le c):a.le c:=
  ⟨k.B.trans h.B,k.w0.trans h.w0,fun _ _ _ e=>k.com _ _ _ (h.com _ _ _ e),fun _ _ e=>k.loc _ _ (h.loc _ _ e),Nat.le_trans h.next k.next⟩
structure AV where
  holds:Ghost→Value→Prop
  mono: ∀ {g g':Ghost} {v:Value},g.le g'→holds g v→holds g' v
def holdsL (g:Ghost):List AV→List Value→Prop
  | [],[]=>True
  |c::cs,v::vs=>c.holds g v∧holdsL g cs vs
  |_,_=>False
theorem holdsL.mono {g g':Ghost} (h:g.le g'): ∀ {cs:List AV} {vs:List Value},holdsL g cs vs→holdsL g' cs vs
  | [],[],_=>trivial
  |c::cs,v::vs,⟨a,b⟩=>⟨c.mono h a,holdsL.mono h b⟩
theorem holdsL.length {g:Ghost}: ∀ {cs:List AV} {vs:List Value},holdsL g cs vs→cs.length=vs.length
  | [],[],_=>rfl
  |_::_,_::_,⟨_,b⟩=>by simp [holdsL.length b]
theorem holdsL.get {g:Ghost}: ∀ {cs:List AV} {vs:List Value} (_:holdsL g cs vs) (i:Nat) (c:AV),cs[i]?=some c→ ∃ v,vs[i]?=some v∧c.holds g v
  | [],[],_,i,c,h=>by simp at h
  |c::cs,v::vs,⟨a,b⟩,0,c',h=>by simp at h;subst h;exact⟨v,rfl,a⟩
  |c::cs,v::vs,⟨a,b⟩,i+1,c',h=>by simpa using holdsL.get b i c' (by simpa using h)
theorem holdsL.append {g:Ghost}: ∀ {cs ds:List AV} {vs us:List Value},holdsL g cs vs→holdsL g ds us→holdsL g (cs++ds) (vs++us)
  | [],_,[],_,_,h=>h
  |_::_,_,_::_,_,⟨a,b⟩,h=>⟨a,holdsL.append b h⟩
theorem holdsL.take {g:Ghost}: ∀ {cs:List AV} {vs:List Value} (n:Nat),holdsL g cs vs→holdsL g (cs.take n) (vs.take n)
  | [],[],n,_=>by simp [holdsL]
  |c::cs,v::vs,0,_=>by simp [holdsL]
  |c::cs,v::vs,n+1,⟨a,b⟩=>⟨a,holdsL.take n b⟩
theorem holdsL.drop {g:Ghost}: ∀ {cs:List AV} {vs:List Value} (n:Nat),holdsL g cs vs→holdsL g (cs.drop n) (vs.drop n)
  | [],[],n,_=>by simp [holdsL]
  |c::cs,v::vs,0,h=>h
  |c::cs,v::vs,n+1,⟨a,b⟩=>holdsL.drop n b
theorem holdsL.set {g:Ghost}: ∀ {cs:List AV} {vs:List Value} (i:Nat) (c:AV) (v:Value),holdsL g cs vs→c.holds g v→holdsL g (cs.set i c) (vs.set i v)
  | [],[],n,_,_,_,_=>by simp [holdsL]
  |_::_,_::_,0,_,_,⟨_,b⟩,k=>⟨k,b⟩
  |_::_,_::_,n+1,c,v,⟨a,b⟩,k=>⟨a,holdsL.set n c v b k⟩
def comRow (g:Ghost) (b:Nat):Nat→List AV→Prop
  |_,[]=>True
  |o,c::cs=>(∃ v,g.com b o=some v∧c.holds g v∧v.oneCell'=true)∧comRow g b (o+1) cs
theorem comRow.mono {g g':Ghost} (h:g.le g') {b:Nat}: ∀ {o:Nat} {cs:List AV},comRow g b o cs→comRow g' b o cs
  |_,[],_=>trivial
  |_,c::_,⟨⟨v,a,b,d⟩,r⟩=>⟨⟨v,h.com _ _ _ a,c.mono h b,d⟩,comRow.mono h r⟩
theorem comRow.get {g:Ghost} {b:Nat}: ∀ {o:Nat} {cs:List AV} (_:comRow g b o cs) (i:Nat) (c:AV),cs[i]?=some c→ ∃ v,g.com b (o+i)=some v∧c.holds g v∧v.oneCell'=true
  |o,c::cs,⟨a,r⟩,0,c',h=>by simp at h;subst h;exact a
  |o,c::cs,⟨a,r⟩,i+1,c',h=>by
   have:=comRow.get r i c' (by simpa using h);rwa [show o+1+i=o+(i+1) by omega] at this
theorem comRow.append {g:Ghost} {b:Nat}: ∀ {o:Nat} {cs ds:List AV},comRow g b o cs→comRow g b (o+cs.length) ds→comRow g b o (cs++ds)
  |o,[],ds,_,h=>by simpa using h
  |o,c::cs,ds,⟨a,r⟩,h=>⟨a,comRow.append r (by rwa [show o+1+cs.length=o+(c::cs).length by simp;omega])⟩
theorem comRow.drop {g:Ghost} {b:Nat}: ∀ {o:Nat} {cs:List AV} (n:Nat),comRow g b o cs→n≤cs.length→comRow g b (o+n) (cs.drop n)
  |o,cs,0,h,_=>h
  |o,[],n+1,_,hn=>by simp at hn
  |o,c::cs,n+1,⟨_,r⟩,hn=>by
   have:=comRow.drop n r (by simpa using hn);rwa [show o+1+n=o+(n+1) by omega] at this
theorem comRow.take {g:Ghost} {b:Nat}: ∀ {o:Nat} {cs:List AV} (n:Nat),comRow g b o cs→comRow g b o (cs.take n)
  |o,cs,0,_=>trivial
  |o,[],n+1,_=>trivial
  |o,c::cs,n+1,⟨a,r⟩=>⟨a,comRow.take n r⟩
theorem comRow.values {g:Ghost} {b:Nat}: ∀ {o:Nat} {cs:List AV},comRow g b o cs→ ∃ vs:List Value,holdsL g cs vs∧(∀ u∈vs,u.oneCell'=true)∧ ∀ i v,vs[i]?=some v→g.com b (o+i)=some v
  |o,[],_=>⟨[],trivial,by simp,by simp⟩
  |o,c::cs,⟨⟨v,a,h,d⟩,r⟩=>by
   obtain⟨vs,k1,k2,k3⟩:=comRow.values r;refine⟨v::vs,⟨h,k1⟩,by simpa using ⟨d,k2⟩,fun i u hu=> ?_⟩;cases i with
   |zero=>simp at hu;subst hu;exact a
   |succ i=>have:=k3 i u (by simpa using hu);rwa [show o+1+i=o+(i+1) by omega] at this
theorem comRow.of {g:Ghost} {b:Nat}: ∀ {o:Nat} {cs:List AV} {vs:List Value},holdsL g cs vs→(∀ u∈vs,u.oneCell'=true)→(∀ i v,vs[i]?=some v→g.com b (o+i)=some v)→comRow g b o cs
  |o,[],[],_,_,_=>trivial
  |o,c::cs,v::vs,⟨a,r⟩,h1,h2=>⟨⟨v,by simpa using h2 0 v rfl,a,h1 v (by simp)⟩,comRow.of r (fun u hu=>h1 u (by simp [hu])) (fun i u hu=>by
   have:=h2 (i+1) u (by simpa using hu);rwa [show o+(i+1)=o+1+i by omega] at this)⟩
namespace AV
@[irreducible] def val (v:Value):AV:=⟨fun _ u=>u=v,fun _ h=>h⟩
@[irreducible] def agg (cs:List AV):AV:=⟨fun g v=> ∃ vs:List Value,v= .agg vs.toArray∧holdsL g cs vs∧ ∀ u∈vs,u.oneCell'=true,fun h ⟨vs,a,b,c⟩=>⟨vs,a,b.mono h,c⟩⟩
@[irreducible] def tup (cs:List AV):AV:=⟨fun g v=> ∃ vs:List Value,v= .tuple vs.toArray∧holdsL g cs vs,fun h ⟨vs,a,b⟩=>⟨vs,a,b.mono h⟩⟩
@[irreducible] def clo (f:Nat) (cs:List AV):AV:=⟨fun g v=> ∃ vs:List Value,v= .func (.func f) #[] vs.toArray∧holdsL g cs vs,fun h ⟨vs,a,b⟩=>⟨vs,a,b.mono h⟩⟩
@[irreducible] def ptr (i off:Nat):AV:=⟨fun g v=> ∃ b p s,g.loc i=some (b,p,s)∧v= .pointer (some ⟨b,off,none⟩),fun h ⟨b,p,s,a,c⟩=>⟨b,p,s,h.loc _ _ a,c⟩⟩
@[irreducible] def arr (i off len:Nat):AV:=⟨fun g v=> ∃ b p s cap,g.loc i=some (b,p,s)∧v= .slice (some ⟨b,off,none⟩) len cap∧len≤cap,fun h ⟨b,p,s,cap,a,c⟩=>⟨b,p,s,cap,h.loc _ _ a,c⟩⟩
@[irreducible] def eptr (cs:List AV):AV:=⟨fun g v=> ∃ b o,v= .pointer (some ⟨b,o,none⟩)∧comRow g b o cs,fun h ⟨b,o,a,c⟩=>⟨b,o,a,c.mono h⟩⟩
def rows (g:Ghost) (a:Option Addr) (sz:Nat) (xs:List (List AV)):Prop:=
  (∀ x∈xs,x.length=sz)∧(xs≠[]→ ∃ b o,a=some ⟨b,o,none⟩∧comRow g b o xs.flatten)
theorem rows.mono {g g':Ghost} (h:g.le g') {a:Option Addr} {sz:Nat} {xs:List (List AV)} (k:rows g a sz xs):rows g' a sz xs:=
  ⟨k.1,fun hx=>let ⟨b,o,e,r⟩:=k.2 hx;⟨b,o,e,r.mono h⟩⟩
@[irreducible] def sl (sz:Nat) (xs:List (List AV)):AV:=⟨fun g v=> ∃ a cap,v= .slice a xs.length cap∧xs.length≤cap∧rows g a sz xs,fun h ⟨a,cap,b,c,d⟩=>⟨a,cap,b,c,d.mono h⟩⟩
@[irreducible] def full (sz:Nat) (xs:List (List AV)):AV:=⟨fun g v=> ∃ a,v= .slice a xs.length xs.length∧(a=none→xs=[])∧rows g a sz xs,fun h ⟨a,b,c,d⟩=>⟨a,b,c,d.mono h⟩⟩
@[irreducible] def own (sz i:Nat) (xs:List (List AV)):AV:=
  ⟨fun g v=> ∃ b pos S off cap,g.loc i=some (b,pos,S)∧v= .slice (some ⟨b,off,none⟩) xs.length cap∧xs.length≤cap∧(∀ x∈xs,x.length=sz)∧comRow g b off xs.flatten∧off+xs.length*sz=pos∧off+cap*sz≤S,
   fun h ⟨b,pos,S,off,cap,a,c,d,e,f,r⟩=>⟨b,pos,S,off,cap,h.loc _ _ a,c,d,e,f.mono h,r⟩⟩
@[irreducible] def opt (c:Prop) (v:AV):AV:=⟨fun g u=>(c→v.holds g u)∧(¬ c→u=undef),fun h ⟨a,b⟩=>⟨fun k=>v.mono h (a k),b⟩⟩
def grow (sz:Nat) (t:Option Nat) (xs:List (List AV)):AV:=match t with|none=>full sz xs|some i=>own sz i xs
abbrev int (n:Int):AV:=val (.int .i64 n)
abbrev bool (b:Bool):AV:=val (.bool b)
end AV
inductive Item where
  |cells (i:Nat) (cs:List AV)
  |tail (t:Option Nat)
  |map (i:Nat) (es:List (Int×AV))
  |raw (i:Nat) (o:Obj)
  |vec (t:Option Nat) (xs:List AV)
def mapOk (g:Ghost):List (Int×AV)→List MapEntry→Prop
  | [],[]=>True
  | (k,v)::es,e::r=>e.key= .int .i64 k∧v.holds g e.val∧mapOk g es r
  |_,_=>False
theorem mapOk.mono {g g':Ghost} (h:g.le g'): ∀ {es:List (Int×AV)} {r:List MapEntry},mapOk g es r→mapOk g' es r
  | [],[],_=>trivial
  | (_,v)::_,_::_,⟨a,b,c⟩=>⟨a,v.mono h b,mapOk.mono h c⟩
def Item.ok (g:Ghost) (w:World):Item→Prop
  | .cells i cs=> ∃ b p s vs E,g.loc i=some (b,p,s)∧w.heap[b]?=some (.cells vs E (0,0))∧holdsL g cs vs.toList∧(∀ u∈vs.toList,u.oneCell'=true)∧(∀ o,g.com b o=none)∧g.B≤b
  | .map i es=> ∃ b p s vs c,g.loc i=some (b,p,s)∧w.heap[b]?=some (.map vs c)∧mapOk g es vs.toList∧(∀ o,g.com b o=none)∧g.B≤b
  | .raw i o=> ∃ b p s,g.loc i=some (b,p,s)∧w.heap[b]?=some o∧(∀ k,g.com b k=none)∧g.B≤b
  | .vec none _=>True
  | .vec (some i) xs=> ∃ b p s vs E,g.loc i=some (b,p,s)∧w.heap[b]?=some (.cells vs E (0,0))∧vs.size=s∧xs.length≤s∧holdsL g xs (vs.toList.take xs.length)∧(∀ u∈vs.toList,u.oneCell'=true)∧(∀ o,g.com b o=none)∧g.B≤b
  | .tail none=>True
  | .tail (some i)=> ∃ b pos S vs E,g.loc i=some (b,pos,S)∧w.heap[b]?=some (.cells vs E (0,0))∧vs.size=S∧pos≤S∧(∀ o,pos≤o→g.com b o=none)∧g.B≤b
def Item.id?:Item→Option Nat
  | .cells i _=>some i
  | .tail t=>t
  | .map i _=>some i
  | .raw i _=>some i
  | .vec t _=>t
def Item.blk (g:Ghost) (it:Item):Option Nat:=it.id?.bind fun i=>(g.loc i).map (·.1)
structure RelW (g:Ghost) (st:List Item) (w:World):Prop where
  com: ∀ b o v,g.com b o=some v→w.cell? ⟨b,o,none⟩=some v
  fresh: ∀ i,g.next≤i→g.loc i=none
  hB:g.B≤w.heap.size
  below:Below g.B g.w0 w
  drawn:g.w0.drawn≤w.drawn
  items: ∀ it∈st,it.ok g w
  nodup:(st.filterMap (Item.blk g)).Nodup
theorem Item.ok.loc {g:Ghost} {w:World} {it:Item} (h:it.ok g w) {i:Nat} (hi:it.id?=some i): ∃ x,g.loc i=some x:=by
  cases it with
  |cells j cs=>obtain⟨b,p,s,vs,E,h,_⟩:=h;simp [id?] at hi;subst hi;exact⟨_,h⟩
  |map j es=>obtain⟨b,p,s,vs,E,h,_⟩:=h;simp [id?] at hi;subst hi;exact⟨_,h⟩
  |raw j o=>obtain⟨b,p,s,h,_⟩:=h;simp [id?] at hi;subst hi;exact⟨_,h⟩
  |vec t xs=>cases t with
   |none=>simp [id?] at hi
   |some j=>obtain⟨b,p,s,vs,E,h,_⟩:=h;simp [id?] at hi;subst hi;exact⟨_,h⟩
  |tail t=>cases t with
   |none=>simp [id?] at hi
   |some j=>obtain⟨b,p,s,vs,E,h,_⟩:=h;simp [id?] at hi;subst hi;exact⟨_,h⟩
theorem Item.blk_le {g g':Ghost} {w:World} {it:Item} (h:it.ok g w) (hg:g.le g'):it.blk g'=it.blk g:=by
  unfold blk;cases hi:it.id? with
  |none=>rfl
  |some i=>obtain⟨x,hx⟩:=h.loc hi;simp [hx,hg.loc _ _ hx]
theorem filterMap_blk_le {g g':Ghost} {w:World} {st:List Item} (h: ∀ it∈st,it.ok g w) (hg:g.le g'):st.filterMap (Item.blk g')=st.filterMap (Item.blk g):=by
  induction st with
  |nil=>rfl
  |cons it st ih=>
   simp only [List.filterMap_cons,Item.blk_le (h it (by simp)) hg];rw [ih (fun x hx=>h x (by simp [hx]))]
theorem RelW.perm {g:Ghost} {st st':List Item} {w:World} (h:RelW g st w) (hp:st.Perm st'):RelW g st' w:=
  ⟨h.com,h.fresh,h.hB,h.below,h.drawn,fun it hi=>h.items it (hp.mem_iff.2 hi),(hp.filterMap _).nodup_iff.1 h.nodup⟩
theorem RelW.sub {g:Ghost} {st st':List Item} {w:World} (h:RelW g st w) (hp:st'.Sublist st):RelW g st' w:=
  ⟨h.com,h.fresh,h.hB,h.below,h.drawn,fun it hi=>h.items it (hp.subset hi),h.nodup.sublist (hp.filterMap _)⟩
theorem RelW.tailOf {g:Ghost} {it:Item} {st:List Item} {w:World} (h:RelW g (it::st) w):RelW g st w:=h.sub (List.sublist_cons_self _ _)
theorem RelW.head_notin {g:Ghost} {it:Item} {st:List Item} {w:World} (h:RelW g (it::st) w) {b:Nat} (hb:it.blk g=some b): ∀ x∈st,x.blk g≠some b:=by
  intro x hx e;have:=h.nodup;simp only [List.filterMap_cons,hb,List.nodup_cons] at this;exact this.1 (List.mem_filterMap.2 ⟨x,hx,e⟩)
theorem RelW.cons {g:Ghost} {it:Item} {st:List Item} {w:World} (h:RelW g st w) (ho:it.ok g w) (hn: ∀ b,it.blk g=some b→ ∀ x∈st,x.blk g≠some b):RelW g (it::st) w:=by
  refine⟨h.com,h.fresh,h.hB,h.below,h.drawn,by simpa using ⟨ho,h.items⟩,?_⟩;simp only [List.filterMap_cons];split
  ·exact h.nodup
  ·rename_i b hb;refine List.nodup_cons.2 ⟨fun hm=> ?_,h.nodup⟩;obtain⟨x,hx,e⟩:=List.mem_filterMap.1 hm;exact hn b hb x hx e
theorem Item.blk_lt {g:Ghost} {w:World} {it:Item} (h:it.ok g w) {b:Nat} (hb:it.blk g=some b):b<w.heap.size∧g.B≤b:=by
  cases it with
  |cells i cs=>
   obtain⟨b',p,s,vs,E,h1,h2,_,_,_,h3⟩:=h;simp [blk,id?,h1] at hb;subst hb;exact⟨(Array.getElem?_eq_some_iff.1 h2).1,h3⟩
  |map i es=>
   obtain⟨b',p,s,vs,E,h1,h2,_,_,h3⟩:=h;simp [blk,id?,h1] at hb;subst hb;exact⟨(Array.getElem?_eq_some_iff.1 h2).1,h3⟩
  |raw i o=>
   obtain⟨b',p,s,h1,h2,_,h3⟩:=h;simp [blk,id?,h1] at hb;subst hb;exact⟨(Array.getElem?_eq_some_iff.1 h2).1,h3⟩
  |vec t xs=>cases t with
   |none=>simp [blk,id?] at hb
   |some i=>
    obtain⟨b',p,s,vs,E,h1,h2,_,_,_,_,_,h3⟩:=h;simp [blk,id?,h1] at hb;subst hb;exact⟨(Array.getElem?_eq_some_iff.1 h2).1,h3⟩
  |tail t=>cases t with
   |none=>simp [blk,id?] at hb
   |some i=>
    obtain⟨b',p,s,vs,E,h1,h2,_,_,_,h3⟩:=h;simp [blk,id?,h1] at hb;subst hb;exact⟨(Array.getElem?_eq_some_iff.1 h2).1,h3⟩
theorem Item.ok.keep {g g':Ghost} {w w':World} {it:Item} (h:it.ok g w) (hg:g.le g') (hk: ∀ b,it.blk g=some b→w'.heap[b]?=w.heap[b]?∧ ∀ o,g'.com b o=g.com b o):it.ok g' w':=by
  cases it with
  |cells i cs=>
   obtain⟨b,p,s,vs,E,h1,h2,h3,h4,h5,h6⟩:=h;obtain⟨k1,k2⟩:=hk b (by simp [blk,id?,h1]);exact⟨b,p,s,vs,E,hg.loc _ _ h1,k1.trans h2,h3.mono hg,h4,fun o=>(k2 o).trans (h5 o),by rw [hg.B];exact h6⟩
  |map i es=>
   obtain⟨b,p,s,vs,E,h1,h2,h3,h5,h6⟩:=h;obtain⟨k1,k2⟩:=hk b (by simp [blk,id?,h1]);exact⟨b,p,s,vs,E,hg.loc _ _ h1,k1.trans h2,h3.mono hg,fun o=>(k2 o).trans (h5 o),by rw [hg.B];exact h6⟩
  |raw i o=>
   obtain⟨b,p,s,h1,h2,h5,h6⟩:=h;obtain⟨k1,k2⟩:=hk b (by simp [blk,id?,h1]);exact⟨b,p,s,hg.loc _ _ h1,k1.trans h2,fun o=>(k2 o).trans (h5 o),by rw [hg.B];exact h6⟩
  |vec t xs=>cases t with
   |none=>trivial
   |some i=>
    obtain⟨b,p,s,vs,E,h1,h2,h3,h4,h5,h6,h7,h8⟩:=h;obtain⟨k1,k2⟩:=hk b (by simp [blk,id?,h1]);exact⟨b,p,s,vs,E,hg.loc _ _ h1,k1.trans h2,h3,h4,h5.mono hg,h6,fun o=>(k2 o).trans (h7 o),by rw [hg.B];exact h8⟩
  |tail t=>cases t with
   |none=>trivial
   |some i=>
    obtain⟨b,p,s,vs,E,h1,h2,h3,h4,h5,h6⟩:=h;obtain⟨k1,k2⟩:=hk b (by simp [blk,id?,h1]);exact⟨b,p,s,vs,E,hg.loc _ _ h1,k1.trans h2,h3,h4,fun o ho=>(k2 o).trans (h5 o ho),by rw [hg.B];exact h6⟩
theorem RelW.evolve {g g':Ghost} {st:List Item} {w w':World} {row:Option Nat} (h:RelW g st w) (hg:g.le g') (hgrow:w.grownBy w' row)
  (hrow: ∀ b,row=some b→g.B≤b)
  (hcom: ∀ b o v,g'.com b o=some v→(g.com b o=some v∧some b≠row)∨w'.cell? ⟨b,o,none⟩=some v)
  (hkeep: ∀ it∈st,∀ b,it.blk g=some b→some b≠row∧ ∀ o,g'.com b o=g.com b o)
  (hfresh: ∀ i,g'.next≤i→g'.loc i=none) (hdr:w.drawn≤w'.drawn:=by first|exact Nat.le_refl _|exact Nat.le_succ _):RelW g' st w':=by
  refine⟨fun b o v hv=> ?_,hfresh,?_,?_,?_,fun it hi=> ?_,?_⟩
  ·rcases hcom b o v hv with ⟨h1,h2⟩|h1
   ·exact hgrow.cell (h.com _ _ _ h1) h2
   ·exact h1
  ·rw [hg.B];exact Nat.le_trans h.hB hgrow.size
  ·rw [hg.B,hg.w0];exact h.below.grown hgrow h.hB hrow
  ·rw [hg.w0];exact Nat.le_trans h.drawn hdr
  ·refine (h.items it hi).keep hg fun b hb=>⟨hgrow.block b (Item.blk_lt (h.items it hi) hb).1 (hkeep it hi b hb).1,(hkeep it hi b hb).2⟩
  ·rw [filterMap_blk_le h.items hg];exact h.nodup
theorem RelW.drew {g:Ghost} {st:List Item} {w:World} (h:RelW g st w):RelW g st w.drew:=
  h.evolve (row:=none) (Ghost.le.refl g) ⟨rfl,rfl,rfl,Nat.le_refl _,fun _ _ _=>rfl⟩ (fun b hb=>by cases hb) (fun b o v hv=> .inl ⟨hv,by simp⟩) (fun it hi b hb=>⟨by simp,fun o=>rfl⟩) h.fresh
end Go.Aw
namespace Go.Aw
open Go.RowKit (Below)
def Ghost.setLoc (g:Ghost) (i:Nat) (x:Nat×Nat×Nat):Ghost:={g with loc:=fun j=>if j=i then some x else g.loc j,next:=max g.next (i+1)}
def Ghost.commit (g:Ghost) (b lo hi:Nat) (f:Nat→Option Value):Ghost:={g with com:=fun b' o=>if b'=b∧lo≤o∧o<hi then f o else g.com b' o}
theorem Ghost.le_setLoc {g:Ghost} {i:Nat} {x:Nat×Nat×Nat} (h:g.loc i=none):g.le (g.setLoc i x):=
  ⟨rfl,rfl,fun _ _ _ h=>h,fun j y hj=>by
   unfold setLoc;simp only;split
   ·rename_i e;subst e;rw [h] at hj;cases hj
   ·exact hj,Nat.le_max_left _ _⟩
theorem Ghost.le_commit {g:Ghost} {b lo hi:Nat} {f:Nat→Option Value} (h: ∀ o,lo≤o→o<hi→g.com b o=none):g.le (g.commit b lo hi f):=
  ⟨rfl,rfl,fun b' o v hv=>by
   unfold commit;simp only;split
   ·rename_i e;obtain⟨rfl,e1,e2⟩:=e;rw [h o e1 e2] at hv;cases hv
   ·exact hv,fun _ _ h=>h,Nat.le_refl _⟩
theorem Ghost.setLoc_same {g:Ghost} {i:Nat} {x:Nat×Nat×Nat}:(g.setLoc i x).loc i=some x:=by simp [setLoc]
theorem Ghost.setLoc_other {g:Ghost} {i j:Nat} {x:Nat×Nat×Nat} (h:j≠i):(g.setLoc i x).loc j=g.loc j:=by simp [setLoc,h]
structure Ghost.to (g:Ghost) (i:Nat) (g':Ghost):Prop where
  le:g.le g'
  keep: ∀ j,j<g.next→j≠i→g'.loc j=g.loc j
theorem Ghost.to.refl (g:Ghost) (i:Nat):g.to i g:=⟨Ghost.le.refl g,fun _ _ _=>rfl⟩
theorem Ghost.to_setLoc {g:Ghost} {i:Nat} {x:Nat×Nat×Nat} (h:g.loc i=none):g.to i (g.setLoc i x):=⟨Ghost.le_setLoc h,fun j _ hj=>Ghost.setLoc_other hj⟩
theorem Ghost.to_commit {g:Ghost} {b lo hi i:Nat} {f:Nat→Option Value} (h: ∀ o,lo≤o→o<hi→g.com b o=none):g.to i (g.commit b lo hi f):=⟨Ghost.le_commit h,fun _ _ _=>rfl⟩
theorem Ghost.to.trans {a b c:Ghost} {i:Nat} (h:a.to i b) (k:b.to i c):a.to i c:=
  ⟨h.le.trans k.le,fun j hj hne=>(k.keep j (Nat.lt_of_lt_of_le hj h.le.next) hne).trans (h.keep j hj hne)⟩
theorem RelW.fresh_setLoc {g:Ghost} {st:List Item} {w:World} (h:RelW g st w) (i:Nat) (x:Nat×Nat×Nat): ∀ j,(g.setLoc i x).next≤j→(g.setLoc i x).loc j=none:=by
  intro j hj;have h1:g.next≤j:=Nat.le_trans (Nat.le_max_left _ _) hj;have h2:i+1≤j:=Nat.le_trans (Nat.le_max_right _ _) hj;rw [Ghost.setLoc_other (by omega)];exact h.fresh j h1
theorem RelW.noCom {g:Ghost} {st:List Item} {w:World} (h:RelW g st w) {b o:Nat} (hb:w.heap.size≤b):g.com b o=none:=by
  cases hc:g.com b o with
  |none=>rfl
  |some v=>
   have:=World.block_lt_of_cell? w _ (h.com _ _ _ hc);simp at this;omega
theorem RelW.blk_ne {g:Ghost} {st:List Item} {w:World} (h:RelW g st w) {it:Item} (hi:it∈st) {b:Nat} (hb:it.blk g=some b):b<w.heap.size∧g.B≤b:=Item.blk_lt (h.items it hi) hb
theorem RelW.allocCells {g:Ghost} {st:List Item} {w:World} (h:RelW g st w) {i:Nat} (hi:g.loc i=none) {cs:List AV} {vs:Array Value} (E:TypeId) (hv:holdsL g cs vs.toList) (h1: ∀ u∈vs.toList,u.oneCell'=true):
  RelW (g.setLoc i (w.heap.size,0,0)) (.cells i cs::st) (w.alloc (.cells vs E)):=by
  have hle:=Ghost.le_setLoc (g:=g) (i:=i) (x:=(w.heap.size,0,0)) hi;refine RelW.cons (h.evolve (row:=none) hle (World.grownBy_alloc w _ none) (fun b hb=>by cases hb) (fun b o v hv=> .inl ⟨hv,by simp⟩) (fun it _ b _=>⟨by simp,fun _=>rfl⟩) (h.fresh_setLoc i _)) ?_ ?_
  ·exact⟨w.heap.size,0,0,vs,E,Ghost.setLoc_same,heap_alloc_new w _,hv.mono hle,h1,fun o=>h.noCom (Nat.le_refl _),h.hB⟩
  ·intro b hb x hx e;simp [Item.blk,Item.id?,Ghost.setLoc_same] at hb;subst hb;rw [Item.blk_le (h.items x hx) hle] at e;exact absurd (h.blk_ne hx e).1 (Nat.lt_irrefl _)
theorem RelW.allocCom {g:Ghost} {st:List Item} {w:World} (h:RelW g st w) {vs:Array Value} (E:TypeId) (n:Nat) (hn:n≤vs.size):
  RelW (g.commit w.heap.size 0 n (fun o=>vs[o]?)) st (w.alloc (.cells vs E)):=by
  have hno: ∀ o,0≤o→o<n→g.com w.heap.size o=none:=fun o _ _=>h.noCom (Nat.le_refl _);refine h.evolve (row:=none) (Ghost.le_commit hno) (World.grownBy_alloc w _ none) (fun b hb=>by cases hb) ?_ ?_ h.fresh
  ·intro b o v hv;unfold Ghost.commit at hv;simp only at hv;split at hv
   ·rename_i e;obtain⟨rfl,_,e2⟩:=e;right;rw [World.cell?_alloc_new];exact hv
   ·exact .inl ⟨hv,by simp⟩
  ·intro it hit b hb;refine⟨by simp,fun o=> ?_⟩;unfold Ghost.commit;simp only;rw [if_neg];rintro⟨rfl,_⟩;exact absurd (h.blk_ne hit hb).1 (Nat.lt_irrefl _)
theorem comRow_commit {g:Ghost} {b n:Nat} {vs:Array Value} {cs:List AV} (hle:g.le (g.commit b 0 n (fun o=>vs[o]?))) (hl:cs.length≤n) (hv:holdsL g cs (vs.toList.take cs.length)) (h1: ∀ u∈vs.toList.take cs.length,u.oneCell'=true):
  comRow (g.commit b 0 n (fun o=>vs[o]?)) b 0 cs:=by
  refine comRow.of (hv.mono hle) h1 (fun i v hi=> ?_);have hlt:i<cs.length:=by
   rcases Nat.lt_or_ge i cs.length with h|h
   ·exact h
   ·rw [List.getElem?_take,if_neg (by omega)] at hi;cases hi
  rw [List.getElem?_take,if_pos hlt] at hi;show (if b=b∧0≤0+i∧0+i<n then _ else _)=_;rw [if_pos ⟨rfl,by omega,by omega⟩];simpa using hi
theorem RelW.allocTail {g:Ghost} {st:List Item} {w:World} (h:RelW g st w) {i:Nat} (hi:g.loc i=none) {vs:Array Value} (E:TypeId) (n:Nat) (hn:n≤vs.size):
  RelW ((g.commit w.heap.size 0 n (fun o=>vs[o]?)).setLoc i (w.heap.size,n,vs.size)) (.tail (some i)::st) (w.alloc (.cells vs E)):=by
  have h1:=h.allocCom E n hn (vs:=vs);have hle:=Ghost.le_setLoc (g:=g.commit w.heap.size 0 n (fun o=>vs[o]?)) (i:=i) (x:=(w.heap.size,n,vs.size)) hi;have h2:=h1.evolve (row:=none) hle ⟨rfl,rfl,rfl,Nat.le_refl _,fun _ _ _=>rfl⟩ (fun b hb=>by cases hb) (fun b o v hv=> .inl ⟨hv,by simp⟩) (fun it _ b _=>⟨by simp,fun _=>rfl⟩) (h1.fresh_setLoc i _);refine RelW.cons h2 ?_ ?_
  ·refine⟨w.heap.size,n,vs.size,vs,E,Ghost.setLoc_same,heap_alloc_new w _,rfl,hn,fun o ho=> ?_,h.hB⟩;show (if _ then _ else _)=none;rw [if_neg (by omega)];exact h.noCom (Nat.le_refl _)
  ·intro b hb x hx e;simp [Item.blk,Item.id?,Ghost.setLoc_same] at hb;subst hb;rw [Item.blk_le (h1.items x hx) hle] at e;have e':x.blk g=some w.heap.size:=e;exact absurd (h.blk_ne hx e').1 (Nat.lt_irrefl _)
theorem RelW.storeCells {g:Ghost} {st:List Item} {w:World} {i:Nat} {cs cs':List AV} (h:RelW g (.cells i cs::st) w) {b p s:Nat} (hl:g.loc i=some (b,p,s)) {vs':Array Value}
  (hv:holdsL g cs' vs'.toList) (h1: ∀ u∈vs'.toList,u.oneCell'=true):RelW g (.cells i cs'::st) (w.setRow b vs'):=by
  obtain⟨b',p',s',vs,E,k1,k2,k3,k4,k5,k6⟩:=h.items _ (by simp:Item.cells i cs∈Item.cells i cs::st);rw [hl] at k1;cases k1;have hne:=h.head_notin (b:=b) (by simp [Item.blk,Item.id?,hl]);have ht:=h.tailOf;refine RelW.cons (ht.evolve (row:=some b) (Ghost.le.refl g) ⟨rfl,rfl,rfl,by simp,fun k _ hk=>setRow_other w b k _ (fun e=>hk (by rw [e]))⟩ (fun b' hb=>by cases hb;exact k6) (fun b' o v hv=> ?_) (fun it hit b' hb'=>⟨fun e=> ?_,fun _=>rfl⟩) h.fresh) ?_ ?_
  ·by_cases e:b'=b
   ·subst e;rw [k5 o] at hv;cases hv
   ·exact .inl ⟨hv,fun x=>e (Option.some.inj x)⟩
  ·cases e;exact hne it hit hb'
  ·exact⟨b,p,s,vs',E,hl,setRow_heap w b vs _ E _ k2,hv,h1,k5,k6⟩
  ·intro b' hb' x hx;simp [Item.blk,Item.id?,hl] at hb';subst hb';exact hne x hx
theorem RelW.growTail {g:Ghost} {st:List Item} {w:World} {i j:Nat} (h:RelW g (.tail (some i)::st) w) (hj:g.loc j=none) {b pos S:Nat} (hl:g.loc i=some (b,pos,S)) {vs vs':Array Value} {E:TypeId}
  (hb:w.heap[b]?=some (.cells vs E (0,0))) (n:Nat) (hS:vs'.size=S) (hn:pos+n≤S) (hsame: ∀ o,o<pos→vs'[o]?=vs[o]?):
  RelW ((g.commit b pos (pos+n) (fun o=>vs'[o]?)).setLoc j (b,pos+n,S)) (.tail (some j)::st) (w.setRow b vs'):=by
  obtain⟨b',pos',S',vs0,E',k1,k2,k3,k4,k5,k6⟩:=h.items _ (by simp:Item.tail (some i)∈Item.tail (some i)::st);rw [hl] at k1;cases k1;rw [hb] at k2;cases k2;have hne:=h.head_notin (b:=b) (by simp [Item.blk,Item.id?,hl]);have ht:=h.tailOf;have hc: ∀ o,pos≤o→o<pos+n→g.com b o=none:=fun o h1 _=>k5 o h1;have hle1:=Ghost.le_commit (f:=fun o=>vs'[o]?) hc;have hle:=hle1.trans (Ghost.le_setLoc (g:=g.commit b pos (pos+n) (fun o=>vs'[o]?)) (i:=j) (x:=(b,pos+n,S)) hj);refine RelW.cons (ht.evolve (row:=some b) hle ⟨rfl,rfl,rfl,by simp,fun k _ hk=>setRow_other w b k _ (fun e=>hk (by rw [e]))⟩ (fun b' hb=>by cases hb;exact k6) (fun b' o v hv=> ?_) (fun it hit b' hb'=>⟨fun e=> ?_,fun o=> ?_⟩) ?_) ?_ ?_
  ·by_cases e:b'=b
   ·subst e;right;rw [cell_setRow_same w b' o vs vs' E (0,0) hb];replace hv:(if b'=b'∧pos≤o∧o<pos+n then vs'[o]? else g.com b' o)=some v:=hv
    split at hv
    ·exact hv
    ·have hlt:o<pos:=by
      rcases Nat.lt_or_ge o pos with hh|hh
      ·exact hh
      ·rw [k5 o hh] at hv;cases hv
     have:=h.com _ _ _ hv;rw [World.cell?,hb] at this;rw [hsame o hlt];simpa using this
   ·left;replace hv:(if b'=b∧pos≤o∧o<pos+n then vs'[o]? else g.com b' o)=some v:=hv
    rw [if_neg (fun x=>e x.1)] at hv;exact⟨hv,fun x=>e (Option.some.inj x)⟩
  ·cases e;exact hne it hit hb'
  ·show (if b'=b∧_ then _ else _)=_;rw [if_neg];rintro⟨rfl,_⟩;exact hne it hit hb'
  ·intro k hk;have h1:g.next≤k:=Nat.le_trans (Nat.le_max_left _ _) hk;have h2:j+1≤k:=Nat.le_trans (Nat.le_max_right _ _) hk;rw [Ghost.setLoc_other (by omega)];exact h.fresh k h1
  ·refine⟨b,pos+n,S,vs',E,Ghost.setLoc_same,setRow_heap w b vs _ E _ hb,hS,hn,fun o ho=> ?_,k6⟩;show (if _ then _ else _)=none;rw [if_neg (by omega)];exact k5 o (by omega)
  ·intro b' hb' x hx e;simp [Item.blk,Item.id?,Ghost.setLoc_same] at hb';subst hb';rw [Item.blk_le (ht.items x hx) hle] at e;exact hne x hx e
theorem RelW.freeze {g:Ghost} {st:List Item} {w:World} {i:Nat} {cs:List AV} (h:RelW g (.cells i cs::st) w) {b p s:Nat} (hl:g.loc i=some (b,p,s)):
  ∃ g',g.to i g'∧RelW g' st w∧comRow g' b 0 cs:=by
  obtain⟨b',p',s',vs,E,k1,k2,k3,k4,k5,k6⟩:=h.items _ (by simp:Item.cells i cs∈Item.cells i cs::st);rw [hl] at k1;cases k1;have hne:=h.head_notin (b:=b) (by simp [Item.blk,Item.id?,hl]);have ht:=h.tailOf;have hc: ∀ o,0≤o→o<vs.size→g.com b o=none:=fun o _ _=>k5 o;have hle:=Ghost.le_commit (f:=fun o=>vs[o]?) hc;have hlen:=k3.length;refine⟨g.commit b 0 vs.size (fun o=>vs[o]?),Ghost.to_commit hc,?_,comRow_commit hle (by simp at hlen;omega) (by rw [hlen,List.take_length];exact k3) (by rw [hlen,List.take_length];exact k4)⟩;refine ht.evolve (row:=none) hle ⟨rfl,rfl,rfl,Nat.le_refl _,fun _ _ _=>rfl⟩ (fun b hb=>by cases hb) (fun b' o v hv=> ?_) (fun it hit b' hb'=>⟨by simp,fun o=> ?_⟩) h.fresh
  ·replace hv:(if b'=b∧0≤o∧o<vs.size then vs[o]? else g.com b' o)=some v:=hv
   split at hv
   ·rename_i e;obtain⟨rfl,_⟩:=e;right;simp [World.cell?,k2,hv]
   ·exact .inl ⟨hv,by simp⟩
  ·show (if b'=b∧_ then _ else _)=_;rw [if_neg];rintro⟨rfl,_⟩;exact hne it hit hb'
end Go.Aw
namespace Go.Aw
open Go.RowKit (Below)
abbrev Fr:=List (Nat×AV)
def look:Fr→Nat→Option AV
  | [],_=>none
  | (k,v)::r,t=>match Nat.beq k t with|true=>some v|false=>look r t
theorem look_cons (k:Nat) (v:AV) (r:Fr) (t:Nat):look ((k,v)::r) t=if k=t then some v else look r t:=by
  show (match Nat.beq k t with|true=>some v|false=>look r t)=_;cases h:Nat.beq k t with
  |true=>rw [if_pos (Nat.eq_of_beq_eq_true h)]
  |false=>rw [if_neg (Nat.ne_of_beq_eq_false h)]
def evA (σ:Fr):Operand→Option AV
  | .tmp t=>look σ t
  | .const v=>some (.val v)
  | .func f=>some (.val (.func (.func f) #[] #[]))
  | .global _=>none
def opTmps (o:Oper):List Tmp:=o.op.operands.toList.filterMap fun| .tmp t=>some t|_=>none
def Slots (g:Ghost) (σ:Fr) (a:Act) (ts:List Tmp):Prop:= ∀ t∈ts,∀ v,look σ t=some v→ ∃ u,a.tmps[t]?=some u∧v.holds g u
structure RelF (n:Nat) (g:Ghost) (σ:Fr) (a:Act):Prop where
  size:a.tmps.size=n
  defers:a.defers=[]
  slot: ∀ t v,look σ t=some v→ ∃ u,a.tmps[t]?=some u∧v.holds g u
theorem RelF.mono {n:Nat} {g g':Ghost} {σ:Fr} {a:Act} (h:RelF n g σ a) (hg:g.le g'):RelF n g' σ a:=
  ⟨h.size,h.defers,fun t v e=>let ⟨u,p,q⟩:=h.slot t v e;⟨u,p,v.mono hg q⟩⟩
theorem RelF.slots {n:Nat} {g:Ghost} {σ:Fr} {a:Act} (h:RelF n g σ a) (ts:List Tmp):Slots g σ a ts:=fun t _ v e=>h.slot t v e
theorem RelF.put {n:Nat} {g:Ghost} {σ:Fr} {a:Act} (h:RelF n g σ a) {d:Nat} (hd:d<n) {v:AV} {u:Value} (hv:v.holds g u):RelF n g ((d,v)::σ) (a.put (some d) u):=by
  refine⟨by simp [Act.put,h.size],h.defers,fun t v' e=> ?_⟩;rw [look_cons] at e;by_cases hdt:d=t
  ·rw [if_pos hdt] at e;cases e;subst hdt;exact⟨u,by simp [Act.put,h.size,hd],hv⟩
  ·rw [if_neg hdt] at e;obtain⟨u',p,q⟩:=h.slot t v' e;exact⟨u',by simp [Act.put,Array.getElem?_setIfInBounds_ne hdt,p],q⟩
theorem AV.val_holds {g:Ghost} {v u:Value}:(AV.val v).holds g u↔u=v:=by unfold AV.val;rfl
theorem AV.val_self {g:Ghost} (v:Value):(AV.val v).holds g v:=AV.val_holds.2 rfl
theorem evA_slot {g:Ghost} {σ:Fr} {a:Act} {x:Operand} {ts:List Tmp} {v:AV} (hs:Slots g σ a ts) (hx: ∀ t,x= .tmp t→t∈ts) (he:evA σ x=some v):v.holds g (a.eval x):=by
  cases x with
  |tmp t=>
   obtain⟨u,p,q⟩:=hs t (hx t rfl) v he;simpa [Act.eval,Array.getD_eq_getD_getElem?,p] using q
  |const c=>simp [evA] at he;subst he;exact AV.val_self _
  |func f=>simp [evA] at he;subst he;exact AV.val_self _
  |global _=>simp [evA] at he
def Goes (P:Program) (o:Oper) (a:Act) (w:World) (R:Value→World→Prop):Prop:=
  match (execOp a.eval o).run P w with
  | .ok (.value u) w'=>R u w'
  | .ok .skip w'=>R undef w'
  | .ok (.enter f args) w'=>Calls P f args w' fun e w''=> ∃ u,e= .returned u∧R u w''
  |_=>False
theorem Goes.wp {P:Program} {o:Oper} {a:Act} {w:World} {R:Value→World→Prop} {K:Act→World→Prop} {Q:Exit→Act→World→Prop} (h:Goes P o a w R) (hk: ∀ u w',R u w'→K (a.put o.dst u) w'):o.wp P a w K Q:=by
  unfold Goes at h;unfold Oper.wp;generalize (execOp a.eval o).run P w=r at*;cases r with
  |halt x w'=>exact h.elim
  |ok x w'=>
   cases x<;>simp only [Oper.upon] at h ⊢ <;>first
    |exact hk _ _ h
    |exact h.elim
    |exact h.mono fun e w'' ⟨u,he,hr⟩=>by subst he;exact hk _ _ hr
theorem Goes.mono {P:Program} {o:Oper} {a:Act} {w:World} {R R':Value→World→Prop} (h:Goes P o a w R) (hk: ∀ u w',R u w'→R' u w'):Goes P o a w R':=by
  unfold Goes at*;split at h
  ·exact hk _ _ h
  ·exact hk _ _ h
  ·exact h.mono fun e w'' ⟨u,he,hr⟩=>⟨u,he,hk _ _ hr⟩
  ·exact h.elim
structure Ghost.ext (g g':Ghost):Prop where
  le:g.le g'
  keep: ∀ j,j<g.next→g'.loc j=g.loc j
theorem Ghost.ext.refl (g:Ghost):g.ext g:=⟨Ghost.le.refl g,fun _ _=>rfl⟩
theorem Ghost.ext.trans {a b c:Ghost} (h:a.ext b) (k:b.ext c):a.ext c:=⟨h.le.trans k.le,fun j hj=>(k.keep j (Nat.lt_of_lt_of_le hj h.le.next)).trans (h.keep j hj)⟩
theorem Ghost.to.ext {g g':Ghost} {i:Nat} (h:g.to i g') (hi:g.next≤i):g.ext g':=⟨h.le,fun j hj=>h.keep j hj (by omega)⟩
theorem Ghost.ext.to {g g':Ghost} (h:g.ext g') (i:Nat):g.to i g':=⟨h.le,fun j hj _=>h.keep j hj⟩
def Yields (P:Program) (o:Oper) (σ:Fr) (st:List Item) (i:Nat) (v:AV) (st':List Item):Prop:=
  ∀ F g a w,RelW g (st++F) w→g.loc i=none→Slots g σ a (opTmps o)→Goes P o a w fun u w'=> ∃ g',g.to i g'∧RelW g' (st'++F) w'∧v.holds g' u
def YieldsG (P:Program) (ops:Array Oper) (o:Oper) (σ:Fr) (st:List Item) (i:Nat) (v:AV) (st':List Item):Prop:=
  ∀ F g a w,RelW g (st++F) w→g.loc i=none→Slots g σ a (o.looksAt ops)→
   if Region.wanted o (yielded ops a.tmps) then Goes P o a w fun u w'=> ∃ g',g.to i g'∧RelW g' (st'++F) w'∧v.holds g' u
   else st'=st∧v.holds g undef
theorem opTmps_sub {ops:Array Oper} {o:Oper}: ∀ t∈opTmps o,t∈o.looksAt ops:=fun t h=>by
  unfold Oper.looksAt;exact List.mem_append_left _ h
theorem Slots.sub {g:Ghost} {σ:Fr} {a:Act} {ts ts':List Tmp} (h:Slots g σ a ts) (hs: ∀ t∈ts',t∈ts):Slots g σ a ts':=fun t ht=>h t (hs t ht)
theorem Yields.plain {P:Program} {ops:Array Oper} {o:Oper} {σ:Fr} {st st':List Item} {i:Nat} {v:AV} (hg:o.guard=none) (h:Yields P o σ st i v st'):YieldsG P ops o σ st i v st':=by
  intro F g a w hw hi hs;rw [if_pos (by simp [Region.wanted,hg])];exact h F g a w hw hi (hs.sub opTmps_sub)
def Says (gv:AV) (pol:Bool) (c:Prop):Prop:= ∀ g u,gv.holds g u→((c→u= .bool pol)∧(¬ c→u≠ .bool pol))
theorem Says.bool (b pol:Bool):Says (.bool b) pol (b=pol):=fun g u h=>by
  rw [AV.val_holds] at h;subst h;exact⟨fun h=>by rw [h],fun h e=>h (by simpa using e)⟩
theorem Says.opt (c:Prop) (b pol:Bool):Says (.opt c (.bool b)) pol (c∧b=pol):=fun g u h=>by
  unfold AV.opt at h;obtain⟨h1,h2⟩:=h;by_cases hc:c
  ·have:=AV.val_holds.1 (h1 hc);subst this;exact⟨fun h=>by rw [h.2],fun h e=>h ⟨hc,by simpa using e⟩⟩
  ·have:=h2 hc;subst this;exact⟨fun h=>absurd h.1 hc,fun _ e=>by simp [undef] at e⟩
theorem Yields.guarded {P:Program} {ops:Array Oper} {o:Oper} {σ:Fr} {st:List Item} {i:Nat} {v:AV} {j:Nat} {pol:Bool} {oj:Oper} {t:Tmp} {gv:AV} {c:Prop}
  (hg:o.guard=some (j,pol)) (hj:ops[j]?=some oj) (hd:oj.dst=some t) (hl:look σ t=some gv) (hc:Says gv pol c) (h:c→Yields P o σ st i v st):YieldsG P ops o σ st i (.opt c v) st:=by
  intro F g a w hw hi hs;have ht:t∈o.looksAt ops:=by unfold Oper.looksAt;simp [hg,hj,hd]
  obtain⟨u,hu,hv⟩:=hs t ht gv hl;have hy:yielded ops a.tmps j=some pol↔u= .bool pol:=by
   simp only [yielded,hj,Option.bind_some,hd,hu];cases u<;>simp
  obtain⟨s1,s2⟩:=hc g u hv;by_cases hcc:c
  ·have hw':Region.wanted o (yielded ops a.tmps)=true:=by simp [Region.wanted,hg,hy.2 (s1 hcc)]
   rw [if_pos hw'];refine (h hcc F g a w hw hi (hs.sub opTmps_sub)).mono fun u' w' ⟨g',h1,h2,h3⟩=>⟨g',h1,h2,?_⟩
   unfold AV.opt;exact⟨fun _=>h3,fun k=>absurd hcc k⟩
  ·have hw': ¬ (Region.wanted o (yielded ops a.tmps)=true):=by
    simp only [Region.wanted,hg,beq_iff_eq];exact fun e=>s2 hcc (hy.1 e)
   rw [if_neg hw'];refine⟨rfl,?_⟩;unfold AV.opt;exact⟨fun k=>absurd k hcc,fun _=>rfl⟩
def AOps (P:Program) (n:Nat) (ops:Array Oper) (rest:List Oper) (σ:Fr) (st:List Item) (K:Fr→List Item→Prop):Prop:=
  ∀ F g a w,RelF n g σ a→RelW g (st++F) w→wpList P ops (fun e a' w'=>e= .normal∧ ∃ g' σ' st',g.ext g'∧RelF n g' σ' a'∧RelW g' (st'++F) w'∧K σ' st') rest a w
def AWP (P:Program) (n:Nat) (c:Code) (σ:Fr) (st:List Item) (Q:Exit→Fr→List Item→Prop):Prop:=
  ∀ F g a w,RelF n g σ a→RelW g (st++F) w→c.wp P (fun e a' w'=> ∃ g' σ' st',g.ext g'∧RelF n g' σ' a'∧RelW g' (st'++F) w'∧Q e σ' st') a w
def callable (P:Program) (f:FuncId):Bool:=match P.funcs[f]? with|some fn=>fn.body.isSome && !(fn.name== "runtime.NumGoroutine")|none=>false
def ACalls (P:Program) (f:FuncId) (args:List AV) (st:List Item) (Q:AV→List Item→Prop):Prop:=
  callable P f=true∧ ∀ F g w vs,RelW g (st++F) w→holdsL g args vs→Calls P f vs.toArray w fun e w'=> ∃ u v st' g',e= .returned u∧g.ext g'∧RelW g' (st'++F) w'∧v.holds g' u∧Q v st'
theorem ACalls.mono {P:Program} {f:FuncId} {args:List AV} {st:List Item} {Q Q':AV→List Item→Prop} (h:ACalls P f args st Q) (hq: ∀ v st',Q v st'→Q' v st'):ACalls P f args st Q':=
  ⟨h.1,fun F g w vs hw hv=>(h.2 F g w vs hw hv).mono fun e w' ⟨u,v,st',g',a,b,c,d,q⟩=>⟨u,v,st',g',a,b,c,d,hq _ _ q⟩⟩
section ops
variable {P:Program} {n:Nat} {ops:Array Oper} {rest:List Oper} {σ:Fr} {st:List Item} {K:Fr→List Item→Prop}
theorem aops_nil (h:K σ st):AOps P n ops [] σ st K:=fun F g a w hf hw=>⟨rfl,g,σ,st,Ghost.ext.refl g,hf,hw,h⟩
theorem wpList_ext {F:List Item} {g g1:Ghost} {a:Act} {w:World} (hx:g.ext g1)
  (h:wpList P ops (fun e a' w'=>e= .normal∧ ∃ g' σ' st',g1.ext g'∧RelF n g' σ' a'∧RelW g' (st'++F) w'∧K σ' st') rest a w):
  wpList P ops (fun e a' w'=>e= .normal∧ ∃ g' σ' st',g.ext g'∧RelF n g' σ' a'∧RelW g' (st'++F) w'∧K σ' st') rest a w:=by
  induction rest generalizing a w with
  |nil=>obtain⟨e,g',σ',st',x,y⟩:=h;exact⟨e,g',σ',st',hx.trans x,y⟩
  |cons o rest ih=>
   unfold wpList at h ⊢;split at h
   ·rename_i hw;rw [if_pos hw];rcases h with h|⟨_,a0,w0,e,_⟩
    ·left;unfold Oper.wp at h ⊢;generalize (execOp a.eval o).run P w=r at*;cases r with
     |halt x w'=>cases x<;>simp only [Oper.upon] at h ⊢ <;>first|exact h.elim| (obtain⟨e,_⟩:=h;cases e)
     |ok x w'=>
      cases x<;>simp only [Oper.upon] at h ⊢ <;>first
       |exact ih h
       |exact h.elim
       | (
        refine h.mono fun e w'' he=> ?_;cases e with
        |returned v=>exact ih he
        |panicked c=>obtain⟨e,_⟩:=he;cases e
        |outgrown=>obtain⟨_,_,e,_⟩:=he;cases e)
       |exact Rows.mono h fun v w'' he=>ih he
    ·cases e
   ·rename_i hw;rw [if_neg hw];exact ih h
theorem aops_step {o:Oper} {v:Nat→AV} {st':Nat→List Item} {σ':Nat→Fr} (hy: ∀ i,YieldsG P ops o σ st i (v i) (st' i))
  (hput: ∀ i g a u,RelF n g σ a→(v i).holds g u→RelF n g (σ' i) (a.put o.dst u)) (h: ∀ i,AOps P n ops rest (σ' i) (st' i) K):AOps P n ops (o::rest) σ st K:=by
  intro F g a w hf hw;have hy':=hy g.next F g a w hw (hw.fresh _ (Nat.le_refl _)) (hf.slots _);unfold wpList;split
  ·rename_i hwn;rw [if_pos hwn] at hy';refine .inl (hy'.wp fun u w' ⟨g',hto,hw',hv⟩=> ?_);exact wpList_ext (hto.ext (Nat.le_refl _)) (h g.next F g' _ w' (hput _ _ _ _ (hf.mono hto.le) hv) hw')
  ·rename_i hwn;rw [if_neg hwn] at hy';obtain⟨e,hv⟩:=hy';have:=h g.next F g _ w (hput _ _ _ _ hf hv) (by rw [e];exact hw);exact this
theorem aops_put {d:Nat} {op:Op} {ty:TypeId} {pos:String} {after:Array Edge} {gd:Option (Nat×Bool)} {v:AV} (hd:d<n)
  (hy: ∀ i,YieldsG P ops ⟨some d,op,ty,pos,after,gd⟩ σ st i v st) (h:AOps P n ops rest ((d,v)::σ) st K):AOps P n ops (⟨some d,op,ty,pos,after,gd⟩::rest) σ st K:=
  aops_step (v:=fun _=>v) (st':=fun _=>st) (σ':=fun _=>(d,v)::σ) hy (fun i g a u hf hv=>hf.put hd hv) fun _=>h
theorem aops_none {op:Op} {ty:TypeId} {pos:String} {after:Array Edge} {gd:Option (Nat×Bool)} {v:AV} {st':List Item}
  (hy: ∀ i,YieldsG P ops ⟨none,op,ty,pos,after,gd⟩ σ st i v st') (h:AOps P n ops rest σ st' K):AOps P n ops (⟨none,op,ty,pos,after,gd⟩::rest) σ st K:=
  aops_step (v:=fun _=>v) (st':=fun _=>st') (σ':=fun _=>σ) hy (fun i g a u hf hv=>hf) fun _=>h
theorem aops_new {d:Nat} {op:Op} {ty:TypeId} {pos:String} {after:Array Edge} {gd:Option (Nat×Bool)} {v:Nat→AV} {st':Nat→List Item} (hd:d<n)
  (hy: ∀ i,YieldsG P ops ⟨some d,op,ty,pos,after,gd⟩ σ st i (v i) (st' i)) (h: ∀ i,AOps P n ops rest ((d,v i)::σ) (st' i) K):AOps P n ops (⟨some d,op,ty,pos,after,gd⟩::rest) σ st K:=
  aops_step (σ':=fun i=>(d,v i)::σ) hy (fun i g a u hf hv=>hf.put hd hv) h
end ops
def Weak (n:Nat) (σ:Fr) (st:List Item) (σ':Fr) (st':List Item):Prop:=
  ∀ F g a w,RelF n g σ a→RelW g (st++F) w→ ∃ g',g.ext g'∧RelF n g' σ' a∧RelW g' (st'++F) w
theorem Weak.refl (n:Nat) (σ:Fr) (st:List Item):Weak n σ st σ st:=fun F g a w hf hw=>⟨g,Ghost.ext.refl g,hf,hw⟩
theorem Weak.trans {n:Nat} {σ σ' σ'':Fr} {st st' st'':List Item} (h:Weak n σ st σ' st') (k:Weak n σ' st' σ'' st''):Weak n σ st σ'' st'':=fun F g a w hf hw=>by
  obtain⟨g',x,y,z⟩:=h F g a w hf hw;obtain⟨g'',x',y',z'⟩:=k F g' a w y z;exact⟨g'',x.trans x',y',z'⟩
def AV.Imp (v v':AV):Prop:= ∀ g u,v.holds g u→v'.holds g u
theorem AV.Imp.refl (v:AV):v.Imp v:=fun _ _ h=>h
theorem AV.Imp.of_eq {v v':AV} (h:v=v'):v.Imp v':=h ▸ AV.Imp.refl v
theorem AV.Imp.trans {a b c:AV} (h:a.Imp b) (k:b.Imp c):a.Imp c:=fun g u x=>k g u (h g u x)
inductive FrLe:Fr→Fr→Prop
  |nil (σ:Fr):FrLe σ []
  |cons {σ σ':Fr} {k:Nat} {v v':AV} (h:look σ k=some v) (hi:v.Imp v') (r:FrLe σ σ'):FrLe σ ((k,v')::σ')
theorem FrLe.look {σ σ':Fr} (h:FrLe σ σ'): ∀ t v',look σ' t=some v'→ ∃ v,look σ t=some v∧v.Imp v':=by
  induction h with
  |nil=>intro t v' e;simp [Aw.look] at e
  |cons h hi _ ih=>
   intro t v' e;rw [look_cons] at e;split at e
   ·rename_i ht;subst ht;cases e;exact⟨_,h,hi⟩
   ·exact ih t v' e
inductive Take:List Item→Item→List Item→Prop
  |here {it st}:Take (it::st) it st
  |there {x st it st'} (h:Take st it st'):Take (x::st) it (x::st')
theorem Take.perm {st st':List Item} {it:Item} (h:Take st it st'):st.Perm (it::st'):=by
  induction h with
  |here=>exact List.Perm.refl _
  |there _ ih=>exact (List.Perm.cons _ ih).trans (List.Perm.swap _ _ _)
inductive ItLe:List Item→List Item→Prop
  |nil (st):ItLe st []
  |cons {st it st' st''} (h:Take st it st'') (r:ItLe st'' st'):ItLe st (it::st')
theorem ItLe.relW {st st':List Item} (h:ItLe st st'): ∀ {F g w},RelW g (st++F) w→RelW g (st'++F) w:=by
  have key: ∃ r,st.Perm (st'++r):=by
   induction h with
   |nil st=>exact⟨st,List.Perm.refl _⟩
   |cons h _ ih=>
    obtain⟨r,hr⟩:=ih;exact⟨r,h.perm.trans (List.Perm.cons _ hr)⟩
  intro F g w hw;obtain⟨r,hr⟩:=key;have hp:(st++F).Perm (r++(st'++F)):=by
   refine (hr.append_right F).trans ?_;rw [←List.append_assoc];exact List.Perm.append_right F List.perm_append_comm
  exact (hw.perm hp).sub (List.sublist_append_right _ _)
theorem ItLe.refl:(st:List Item)→ItLe st st
  | []=> .nil _
  |_::st=> .cons .here (ItLe.refl st)
def Exit.thenA (next:Fr→List Item→Prop) (Q:Exit→Fr→List Item→Prop):Exit→Fr→List Item→Prop
  | .normal,σ,st=>next σ st
  |e,σ,st=>Q e σ st
def Exit.inBlockA (id:Nat) (Q:Exit→Fr→List Item→Prop):Exit→Fr→List Item→Prop
  | .exit j,σ,st=>match Nat.beq j id with|true=>Q .normal σ st|false=>Q (.exit j) σ st
  |e,σ,st=>Q e σ st
section code
variable {P:Program} {n:Nat} {σ:Fr} {st:List Item} {Q:Exit→Fr→List Item→Prop}
theorem wp_ext {c:Code} {F:List Item} {g g1:Ghost} {a:Act} {w:World} (hx:g.ext g1)
  (h:c.wp P (fun e a' w'=> ∃ g' σ' st',g1.ext g'∧RelF n g' σ' a'∧RelW g' (st'++F) w'∧Q e σ' st') a w):
  c.wp P (fun e a' w'=> ∃ g' σ' st',g.ext g'∧RelF n g' σ' a'∧RelW g' (st'++F) w'∧Q e σ' st') a w:=
  Code.wp_mono (fun e a' w' ⟨g',σ',st',x,y⟩=>⟨g',σ',st',hx.trans x,y⟩) h
theorem awp_weak {c:Code} {σ':Fr} {st':List Item} (hw:Weak n σ st σ' st') (h:AWP P n c σ' st' Q):AWP P n c σ st Q:=fun F g a w hf hr=>by
  obtain⟨g',x,y,z⟩:=hw F g a w hf hr;exact wp_ext x (h F g' a w y z)
theorem awp_skip (h:Q .normal σ st):AWP P n .skip σ st Q:=fun F g a w hf hw=>wp_skip ⟨g,σ,st,Ghost.ext.refl g,hf,hw,h⟩
theorem awp_ret (h:Q .ret σ st):AWP P n .ret σ st Q:=fun F g a w hf hw=>wp_ret ⟨g,σ,st,Ghost.ext.refl g,hf,hw,h⟩
theorem awp_exit {id:Nat} (h:Q (.exit id) σ st):AWP P n (.exit id) σ st Q:=fun F g a w hf hw=>wp_exit ⟨g,σ,st,Ghost.ext.refl g,hf,hw,h⟩
theorem awp_seq {x y:Code} (h:AWP P n x σ st (Exit.thenA (fun σ' st'=>AWP P n y σ' st' Q) Q)):AWP P n (.seq x y) σ st Q:=fun F g a w hf hw=>
  wp_seq (Code.wp_mono (fun e a' w' ⟨g',σ',st',hx,hf',hw',hq⟩=>by
   cases e with
   |normal=>exact wp_ext hx (hq F g' a' w' hf' hw')
   |_=>exact⟨g',σ',st',hx,hf',hw',hq⟩) (h F g a w hf hw))
theorem awp_block {id:Nat} {c:Code} (h:AWP P n c σ st (Exit.inBlockA id Q)):AWP P n (.block id c) σ st Q:=fun F g a w hf hw=>
  wp_block (Code.wp_mono (fun e a' w' ⟨g',σ',st',hx,hf',hw',hq⟩=>by
   cases e with
   |exit j=>
    simp only [Exit.inBlockA] at hq;simp only [Exit.inBlock];cases e:Nat.beq j id with
    |true=>rw [e] at hq;rw [if_pos (Nat.eq_of_beq_eq_true e)];exact⟨g',σ',st',hx,hf',hw',hq⟩
    |false=>rw [e] at hq;rw [if_neg (Nat.ne_of_beq_eq_false e)];exact⟨g',σ',st',hx,hf',hw',hq⟩
   |_=>exact⟨g',σ',st',hx,hf',hw',hq⟩) (h F g a w hf hw))
theorem awp_cond {c:Operand} {x y:Code} {b:Bool} (hc:evA σ c=some (.bool b)) (ht:b=true→AWP P n x σ st Q) (hf:b=false→AWP P n y σ st Q):AWP P n (.cond c x y) σ st Q:=fun F g a w hfr hw=>by
  have hv:=evA_slot (ts:=match c with| .tmp t=>[t]|_=>[]) (hfr.slots _) (fun t e=>by subst e;simp) hc;rw [AV.val_holds] at hv;exact wp_cond_split hv (fun e=>ht e F g a w hfr hw) (fun e=>hf e F g a w hfr hw)
theorem awp_loop {c:Code} {X:Type} (fr:X→Fr) (it:X→List Item) (dom:X→Prop) (μ:X→Nat) (x0:X) (h0:dom x0) (hstart:Weak n σ st (fr x0) (it x0))
  (hround: ∀ x,dom x→AWP P n c (fr x) (it x) (Exit.thenA (fun σ' st'=> ∃ x',dom x'∧μ x'<μ x∧Weak n σ' st' (fr x') (it x')) Q)):AWP P n (.loop c) σ st Q:=by
  intro F g a w hf hw;obtain⟨g0,hx0,hf0,hw0⟩:=hstart F g a w hf hw;have key: ∀ m x,μ x=m→dom x→ ∀ g1 a w,g.ext g1→RelF n g1 (fr x) a→RelW g1 (it x++F) w→ ∀ (b:Frame) (k:List Go.Item) (cs:List Frame),
   ∃ e a' w',(∃ g' σ' st',g.ext g'∧RelF n g' σ' a'∧RelW g' (st'++F) w'∧Q e σ' st')∧Arrives P (lone (b.at a (.code c:: .inLoop c::k)) cs w) b k cs e a' w':=by
   intro m;induction m using Nat.strongRecOn with
   |_ m ih=>
    intro x hm hd g1 a w hx1 hf1 hw1 b k cs;obtain⟨e,a₁,w₁,⟨g',σ',st',hx,hf',hw',hq⟩,harr⟩:=hround x hd F g1 a w hf1 hw1 b (.inLoop c::k) cs;cases e with
    |normal=>
     obtain⟨x',hd',hlt,hwk⟩:=hq;obtain⟨g2,hx2,hf2,hw2⟩:=hwk F g' a₁ w₁ hf' hw';obtain⟨e₂,a₂,w₂,hq₂,harr₂⟩:=ih (μ x') (hm ▸ hlt) x' rfl hd' g2 a₁ w₁ ((hx1.trans hx).trans hx2) hf2 hw2 b k cs;exact⟨e₂,a₂,w₂,hq₂,.of_steps (Steps.trans harr (.one step_inLoop)) harr₂⟩
    |exit id=>exact⟨_,a₁,w₁,⟨g',σ',st',hx1.trans hx,hf',hw',hq⟩,.pass (x:= .inLoop c) rfl (fun _ _=> .inl (by simp)) harr⟩
    |goto l=>exact⟨_,a₁,w₁,⟨g',σ',st',hx1.trans hx,hf',hw',hq⟩,.pass (x:= .inLoop c) rfl (fun _ _=> .inl (by simp)) harr⟩
    |ret=>exact⟨_,a₁,w₁,⟨g',σ',st',hx1.trans hx,hf',hw',hq⟩,.pass (x:= .inLoop c) rfl (fun _ _=> .inl (by simp)) harr⟩
    |panic ch=>exact⟨_,a₁,w₁,⟨g',σ',st',hx1.trans hx,hf',hw',hq⟩,.pass (x:= .inLoop c) rfl (fun _ _=> .inl (by simp)) harr⟩
    |outgrown=>exact⟨_,a₁,w₁,⟨g',σ',st',hx1.trans hx,hf',hw',hq⟩,.pass (x:= .inLoop c) rfl (fun _ _=> .inl (by simp)) harr⟩
  intro b k cs;obtain⟨e,a',w',hq,harr⟩:=key _ x0 rfl h0 g0 a w hx0 hf0 hw0 b k cs;exact⟨e,a',w',hq,.of_steps (.one step_loop) harr⟩
theorem awp_region {id:Nat} {l:List Oper} (h:AOps P n l.toArray l σ st (fun σ' st'=>Q .normal σ' st')):AWP P n (.region id l.toArray false) σ st Q:=fun F g a w hf hw=>
  Code.wp_mono (fun e a' w' ⟨he,g',σ',st',r⟩=>by subst he;exact⟨g',σ',st',r⟩) (wp_region_lit (h F g a w hf hw))
end code
def initFr:Nat→List AV→Fr
  |_,[]=>[]
  |k,v::vs=>(k,v)::initFr (k+1) vs
theorem look_initFr: ∀ (vs:List AV) (k t:Nat) (v:AV),look (initFr k vs) t=some v→k≤t∧vs[t - k]?=some v
  | [],k,t,v,h=>by simp [initFr,look] at h
  |x::vs,k,t,v,h=>by
   rw [initFr,look_cons] at h;split at h
   ·rename_i e;subst e;cases h;simp
   ·have:=look_initFr vs (k+1) t v h;refine⟨by omega,?_⟩;rw [show t - k=(t - (k+1))+1 by omega];simpa using this.2
inductive ResOne (P:Program) (σ:Fr) (st:List Item):ResultVar→AV→Prop
  |tmp {t v} (h:look σ t=some v):ResOne P σ st (.tmp t) v
  |cell {t T i v} (h:look σ t=some (.ptr i 0)) (hl: ∀ F g w,RelW g (st++F) w→ ∀ b p s,g.loc i=some (b,p,s)→ ∃ u,v.holds g u∧(loadVar T ⟨b,0,none⟩).run P w= .ok u w):ResOne P σ st (.cell t T) v
inductive ResAll (P:Program) (σ:Fr) (st:List Item):List ResultVar→List AV→Prop
  |nil:ResAll P σ st [] []
  |cons {r rs v vs} (h:ResOne P σ st r v) (k:ResAll P σ st rs vs):ResAll P σ st (r::rs) (v::vs)
def shutRes:List AV→AV
  | [v]=>v
  |vs=> .tup vs
end Go.Aw
namespace Go.Aw
open Go.RowKit (Below)
def isAggB (P:Program) (T:TypeId):Option Bool:=match P.underlying T with|some (.struct _)=>some true|some (.array _ _)=>some true|some _=>some false|none=>none
def sizeB (P:Program) (T:TypeId):Option Nat:=(P.info? T).map (·.size)
class ScalarT (P:Program) (T:TypeId):Prop where
  agg:isAggB P T=some false
  size:sizeB P T=some 1
class AggT (P:Program) (T:TypeId) (n:outParam Nat):Prop where
  agg:isAggB P T=some true
  size:sizeB P T=some n
class SliceT (P:Program) (T:TypeId) (E sz bytes:outParam Nat):Prop where
  und:P.underlying T=some (.slice E)
  hsize:sizeB P E=some sz
  hbytes:(P.info? E).map (·.bytes)=some bytes
  pos:0<sz
  small:bytes≤65536
class ArrayT (P:Program) (T:TypeId) (len E sz:outParam Nat):Prop where
  und:P.underlying T=some (.array len E)
  hsize:sizeB P E=some sz
class ZeroT (P:Program) (T:TypeId) (zs:outParam (List Value)):Prop where
  out:((P.info? T).bind (·.zero)).map (fun v=>v.cells.toList)=some zs
  one:zs.all (·.oneCell')=true
section
variable {P:Program} {w:World}
theorem run_isAgg {T:TypeId} {b:Bool} (h:isAggB P T=some b):(isAgg T).run P w= .ok b w:=by
  unfold isAggB at h;cases hu:P.underlying T with
  |none=>simp [hu] at h
  |some d=>cases d<;>simp [hu] at h<;>subst h<;>simp [isAgg,run_underlying hu]
theorem run_sizeOf {T n:Nat} (h:sizeB P T=some n):(sizeOf T).run P w= .ok n w:=by
  unfold sizeB at h;cases hi:P.info? T with
  |none=>simp [hi] at h
  |some i=>simp [hi] at h;subst h;simp [sizeOf,typeInfo,hi]
theorem run_load_cell {ad:Addr} {v:Value} (h:w.cell? ad=some v):(load ad).run P w= .ok v w:=by
  unfold load;simp [Sem.run,h]
theorem Addr.add_mk (b o k:Nat):(⟨b,o,none⟩:Addr).add k=⟨b,o+k,none⟩:=by unfold Addr.add;split<;>simp_all
theorem run_loadVar_scalar {T:TypeId} [ht:ScalarT P T] {b o:Nat} {v:Value} (h:w.cell? ⟨b,o,none⟩=some v):(loadVar T ⟨b,o,none⟩).run P w= .ok v w:=by
  unfold loadVar;rw [Sem.run_bind,run_isAgg ht.agg];simp only [Result.andThen_ok,Bool.false_eq_true,if_false];exact run_load_cell h
theorem run_loadVar_agg {T n:Nat} [ht:AggT P T n] {b o:Nat} {vs:List Value} (hl:vs.length=n) (h: ∀ j v,vs[j]?=some v→w.cell? ⟨b,o+j,none⟩=some v):(loadVar T ⟨b,o,none⟩).run P w= .ok (.agg vs.toArray) w:=by
  have:=run_loadCells_list (P:=P) w ⟨b,o,none⟩ vs (fun j v hj=>by rw [Addr.add_mk];exact h j v hj);rw [hl] at this;simp [loadVar,run_isAgg ht.agg,run_sizeOf ht.size,this]
end
def VShift (v:AV) (st:List Item) (v':AV) (st':List Item):Prop:= ∀ F g u w,RelW g (st++F) w→v.holds g u→ ∃ g',g.ext g'∧RelW g' (st'++F) w∧v'.holds g' u
theorem VShift.of {v v':AV} {st st':List Item} (h:v.Imp v') (k:ItLe st st'):VShift v st v' st':=fun F g u w hw hv=>⟨g,Ghost.ext.refl g,k.relW hw,h _ _ hv⟩
theorem VShift.drop {v:AV} {st:List Item}:VShift v st v []:= .of (AV.Imp.refl v) (.nil _)
theorem VShift.refl {v:AV} {st:List Item}:VShift v st v st:= .of (AV.Imp.refl v) (.refl _)
def RetA (P:Program) (rs:List ResultVar) (Q:AV→List Item→Prop) (e:Exit) (σ:Fr) (st:List Item):Prop:=
  (e= .normal∨e= .ret)∧ ∃ vs,ResAll P σ st rs vs∧ ∃ v st',VShift (shutRes vs) st v st'∧Q v st'
theorem shutRes_holds {g:Ghost}: ∀ {vs:List AV} {us:List Value},holdsL g vs us→(shutRes vs).holds g (if h:us.toArray.size=1 then us.toArray[0] else .tuple us.toArray)
  | [],[],_=>by simp [shutRes];unfold AV.tup;exact⟨[],rfl,trivial⟩
  | [v],[u],⟨h,_⟩=>by simpa [shutRes] using h
  |v::v'::vs,u::u'::us,h=>by
   simp [shutRes];unfold AV.tup;exact⟨u::u'::us,rfl,h⟩
theorem run_results {P:Program} {n:Nat} {σ:Fr} {st F:List Item} {g:Ghost} {a:Act} {w:World} (hf:RelF n g σ a) (hw:RelW g (st++F) w):
  ∀ {rs:List ResultVar} {vs:List AV},ResAll P σ st rs vs→ ∃ us:List Value,holdsL g vs us∧(rs.mapM (m:=Sem) (fun r=>match r with
   | .tmp t=>pure (a.tmps.getD t undef)
   | .cell a' t=>do loadVar t (←asAddr (a.tmps.getD a' undef)))).run P w= .ok us w:=by
  intro rs vs h;induction h with
  |nil=>exact⟨[],trivial,rfl⟩
  | @cons r rs v vs h1 _ ih=>
   obtain⟨us,k1,k2⟩:=ih;cases h1 with
   |tmp hl=>
    obtain⟨u,p,q⟩:=hf.slot _ _ hl;refine⟨u::us,⟨q,k1⟩,?_⟩;rw [List.mapM_cons];simp only [Array.getD_eq_getD_getElem?,p,Option.getD_some,Sem.run_bind,Sem.run_pure,Result.andThen_ok];simp only [Array.getD_eq_getD_getElem?] at k2;simp [k2]
   | @cell t T i v hl hc=>
    obtain⟨x,p,q⟩:=hf.slot _ _ hl;unfold AV.ptr at q;obtain⟨b,p',s',hb,rfl⟩:=q;obtain⟨u,q',hu⟩:=hc F g w hw b p' s' hb;refine⟨u::us,⟨q',k1⟩,?_⟩;rw [List.mapM_cons];have ha:(asAddr (a.tmps.getD t undef)).run P w= .ok ⟨b,0,none⟩ w:=by
     rw [Array.getD_eq_getD_getElem?,p];rfl
    rw [Sem.run_bind,Sem.run_bind,ha];simp only [Result.andThen_ok];rw [hu];simp only [Result.andThen_ok];rw [Sem.run_bind];exact congrArg (fun r=>Result.andThen r _) k2
theorem acalls_body {P:Program} {f:FuncId} {fn:Func} {c:Code} {n:Nat} {args:List AV} {st:List Item} {Q:AV→List Item→Prop}
  (hf:P.funcs[f]?=some fn) (hc:callable P f=true) (hb:fn.body=some c) (hn:fn.ntmps=n) (hl:args.length≤n)
  (h:AWP P n c (initFr 0 args) st (RetA P fn.results.toList Q)):ACalls P f args st Q:=by
  refine⟨hc,fun F g w vs hw hv=>calls_of_wp hf hb (Code.wp_mono ?_ (h F g _ w ?_ hw))⟩
  ·rintro e a' w' ⟨g',σ',st',hx,hf',hw',he,avs,hres,v,st'',hsh,hq⟩;obtain⟨us,k1,k2⟩:=run_results hf' hw' hres;have hrun:(results fn a'.tmps).run P w'= .ok (if h:us.toArray.size=1 then us.toArray[0] else .tuple us.toArray) w':=by
    unfold results;rw [←Array.toArray_toList (xs:=fn.results),List.mapM_toArray,Sem.run_bind];change Result.andThen (Sem.run P (List.mapM _ fn.results.toList>>=fun x=>pure x.toArray) w') _=_;rw [Sem.run_bind];exact congrArg (fun r=>Result.andThen (Result.andThen r (fun a w'=>Sem.run P (pure a.toArray) w')) (fun a w'=>Sem.run P (pure (if h:a.size=1 then a[0] else Value.tuple a)) w')) k2
   obtain⟨g'',hx'',hw'',hv''⟩:=hsh F g' _ w' hw' (shutRes_holds k1);have hR:(fun e w'=> ∃ u v st' g',e=Ending.returned u∧g.ext g'∧RelW g' (st'++F) w'∧v.holds g' u∧Q v st') (Ending.returned (if h:us.toArray.size=1 then us.toArray[0] else .tuple us.toArray)) w':=
    ⟨_,v,st'',g'',rfl,hx.trans hx'',hw'',hv'',hq⟩
   rcases he with rfl|rfl
   ·exact⟨hf'.defers,_,hrun,hR⟩
   ·exact⟨hf'.defers,_,hrun,hR⟩
  ·have hlen:=hv.length;refine⟨by simp;omega,rfl,fun t v e=> ?_⟩;obtain⟨_,h2⟩:=look_initFr args 0 t v e;obtain⟨u,p,q⟩:=hv.get _ _ h2;refine⟨u,?_,q⟩;simp only [Nat.sub_zero] at p;have hlt:t<vs.length:=by
    rcases Nat.lt_or_ge t vs.length with h|h
    ·exact h
    ·simp [List.getElem?_eq_none h] at p
   simp only [List.size_toArray,Array.getElem?_append,if_pos hlt];simpa using p
end Go.Aw
namespace Go.Aw
open Go.RowKit (Below)
section
variable {P:Program} {σ:Fr} {st:List Item} {i:Nat} {d:Option Tmp} {ty:TypeId} {pos:String} {after:Array Edge} {gd:Option (Nat×Bool)}
theorem goes_value {o:Oper} {a:Act} {w w':World} {u:Value} {R:Value→World→Prop} (h:(execOp a.eval o).run P w= .ok (.value u) w') (hr:R u w'):Goes P o a w R:=by
  unfold Goes;rw [h];exact hr
theorem goes_skip {o:Oper} {a:Act} {w w':World} {R:Value→World→Prop} (h:(execOp a.eval o).run P w= .ok .skip w') (hr:R undef w'):Goes P o a w R:=by
  unfold Goes;rw [h];exact hr
theorem ev {g:Ghost} {o:Oper} {a:Act} {x:Operand} {v:AV} (hs:Slots g σ a (opTmps o)) (hm:x∈o.op.operands) (he:evA σ x=some v):v.holds g (a.eval x):=
  evA_slot hs (fun t e=>by subst e;exact List.mem_filterMap.2 ⟨_,Array.mem_toList_iff.2 hm,rfl⟩) he
theorem evA_opt_holds {g:Ghost} {c:Prop} {v:AV} {u:Value} (hc:c) (h:(AV.opt c v).holds g u):v.holds g u:=by unfold AV.opt at h;exact h.1 hc
inductive Ev (σ:Fr) (x:Operand):AV→Prop
  |plain {v} (h:evA σ x=some v):Ev σ x v
  |opt {c v} (h:evA σ x=some (.opt c v)) (hc:c):Ev σ x v
  |imp {v v'} (h:Ev σ x v) (hi:v.Imp v'):Ev σ x v'
theorem Ev.holds {g:Ghost} {o:Oper} {a:Act} {x:Operand} {v:AV} (he:Ev σ x v) (hs:Slots g σ a (opTmps o)) (hm:x∈o.op.operands):v.holds g (a.eval x):=by
  induction he with
  |plain h=>exact ev hs hm h
  |opt h hc=>exact evA_opt_holds hc (ev hs hm h)
  |imp _ hi ih=>exact hi _ _ ih
inductive EvL (σ:Fr):List Operand→List AV→Prop
  |nil:EvL σ [] []
  |cons {x v xs vs} (h:Ev σ x v) (r:EvL σ xs vs):EvL σ (x::xs) (v::vs)
theorem EvL.holds {g:Ghost} {o:Oper} {a:Act} {xs:List Operand} {vs:List AV} (he:EvL σ xs vs) (hs:Slots g σ a (opTmps o)) (hm: ∀ x∈xs,x∈o.op.operands):holdsL g vs (xs.map a.eval):=by
  induction he with
  |nil=>trivial
  |cons h _ ih=>exact⟨h.holds hs (hm _ (by simp)),ih (fun x hx=>hm x (by simp [hx]))⟩
theorem y_move {x:Operand} {v:AV} (hx:Ev σ x v):Yields P ⟨d,.move x,ty,pos,after,gd⟩ σ st i v st:=fun F g a w hw hi hs=>
  goes_value (u:=a.eval x) (by simp [execOp]) ⟨g,Ghost.to.refl g i,hw,hx.holds hs (by simp [Op.operands])⟩
theorem y_assign {x:Operand} {v:AV} (hx:Ev σ x v):Yields P ⟨d,.assign x,ty,pos,after,gd⟩ σ st i v st:=fun F g a w hw hi hs=>
  goes_value (u:=a.eval x) (by simp [execOp]) ⟨g,Ghost.to.refl g i,hw,hx.holds hs (by simp [Op.operands])⟩
theorem y_pick {c x y:Operand} {b:Bool} {v:AV} (hc:Ev σ c (.bool b)) (hx:b=true→Ev σ x v) (hy:b=false→Ev σ y v):Yields P ⟨d,.pick c x y,ty,pos,after,gd⟩ σ st i v st:=fun F g a w hw hi hs=>by
  have h:=AV.val_holds.1 (hc.holds hs (by simp [Op.operands]));refine goes_value (u:=if b then a.eval x else a.eval y) (by simp [execOp,h,asBool]) ⟨g,Ghost.to.refl g i,hw,?_⟩;cases b with
  |true=>exact (hx rfl).holds hs (by simp [Op.operands])
  |false=>exact (hy rfl).holds hs (by simp [Op.operands])
theorem y_and {c x y:Operand} {b r:Bool} (hc:Ev σ c (.bool b)) (hx:evA σ x=some (.opt (b=true) (.bool r))) (hy:evA σ y=some (.val (.bool false))):Yields P ⟨d,.pick c x y,ty,pos,after,gd⟩ σ st i (.bool (b && r)) st:=
  y_pick hc (fun h=>by subst h;exact .opt hx rfl) (fun h=>by subst h;exact .plain hy)
theorem y_or {c x y:Operand} {b r:Bool} (hc:Ev σ c (.bool b)) (hx:evA σ x=some (.val (.bool true))) (hy:evA σ y=some (.opt (b=false) (.bool r))):Yields P ⟨d,.pick c x y,ty,pos,after,gd⟩ σ st i (.bool (b||r)) st:=
  y_pick hc (fun h=>by subst h;exact .plain hx) (fun h=>by subst h;exact .opt hy rfl)
theorem y_and' {c x y:Operand} {b r:Bool} {c0:Prop} (h0:c0) (hc:Ev σ c (.bool b)) (hx:evA σ x=some (.opt (c0∧b=true) (.bool r))) (hy:evA σ y=some (.val (.bool false))):Yields P ⟨d,.pick c x y,ty,pos,after,gd⟩ σ st i (.bool (b && r)) st:=
  y_pick hc (fun h=>by subst h;exact .opt hx ⟨h0,rfl⟩) (fun h=>by subst h;exact .plain hy)
theorem y_or' {c x y:Operand} {b r:Bool} {c0:Prop} (h0:c0) (hc:Ev σ c (.bool b)) (hx:evA σ x=some (.val (.bool true))) (hy:evA σ y=some (.opt (c0∧b=false) (.bool r))):Yields P ⟨d,.pick c x y,ty,pos,after,gd⟩ σ st i (.bool (b||r)) st:=
  y_pick hc (fun h=>by subst h;exact .plain hx) (fun h=>by subst h;exact .opt hy ⟨h0,rfl⟩)
theorem y_not {T:TypeId} {x:Operand} {b:Bool} (hx:Ev σ x (.bool b)):Yields P ⟨d,.unOp .not T x,ty,pos,after,gd⟩ σ st i (.bool (!b)) st:=fun F g a w hw hi hs=>
  goes_value (u:= .bool (!b)) (by simp [execOp,AV.val_holds.1 (hx.holds hs (by simp [Op.operands])),Op.unary]) ⟨g,Ghost.to.refl g i,hw,AV.val_self _⟩
theorem y_neg {T:TypeId} {x:Operand} {a:Int} (hx:Ev σ x (.int a)) (hb: -9223372036854775808<a∧a≤9223372036854775807):Yields P ⟨d,.unOp .neg T x,ty,pos,after,gd⟩ σ st i (.int (-a)) st:=fun F g ac w hw hi hs=>
  goes_value (u:= .int .i64 (-a)) (by
   have:IntKind.i64.wrap (0 - a)= -a:=by rw [IntKind.wrap_i64];omega
   simp only [execOp,AV.val_holds.1 (hx.holds hs (by simp [Op.operands])),Op.unary,Op.intArith];rw [this];simp) ⟨g,Ghost.to.refl g i,hw,AV.val_self _⟩
section bin
variable {T T':TypeId} {x y:Operand} {k:IntKind} {a b:Int}
theorem y_lss (hx:Ev σ x (.val (.int k a))) (hy:Ev σ y (.val (.int k b))):Yields P ⟨d,.binOp .lss T x y T',ty,pos,after,gd⟩ σ st i (.bool (decide (a<b))) st:=fun F g ac w hw hi hs=>
  goes_value (u:= .bool (decide (a<b))) (by simp [execOp,AV.val_holds.1 (Ev.holds hx hs (by simp [Op.operands])),AV.val_holds.1 (Ev.holds hy hs (by simp [Op.operands])),eqGuard,binOp,Op.intCmp,bne]) ⟨g,Ghost.to.refl g i,hw,AV.val_self _⟩
theorem y_leq (hx:Ev σ x (.val (.int k a))) (hy:Ev σ y (.val (.int k b))):Yields P ⟨d,.binOp .leq T x y T',ty,pos,after,gd⟩ σ st i (.bool (decide (a≤b))) st:=fun F g ac w hw hi hs=>
  goes_value (u:= .bool (decide (a≤b))) (by simp [execOp,AV.val_holds.1 (Ev.holds hx hs (by simp [Op.operands])),AV.val_holds.1 (Ev.holds hy hs (by simp [Op.operands])),eqGuard,binOp,Op.intCmp,bne]) ⟨g,Ghost.to.refl g i,hw,AV.val_self _⟩
theorem y_gtr (hx:Ev σ x (.val (.int k a))) (hy:Ev σ y (.val (.int k b))):Yields P ⟨d,.binOp .gtr T x y T',ty,pos,after,gd⟩ σ st i (.bool (decide (b<a))) st:=fun F g ac w hw hi hs=>
  goes_value (u:= .bool (decide (b<a))) (by simp [execOp,AV.val_holds.1 (Ev.holds hx hs (by simp [Op.operands])),AV.val_holds.1 (Ev.holds hy hs (by simp [Op.operands])),eqGuard,binOp,Op.intCmp,bne]) ⟨g,Ghost.to.refl g i,hw,AV.val_self _⟩
theorem y_geq (hx:Ev σ x (.val (.int k a))) (hy:Ev σ y (.val (.int k b))):Yields P ⟨d,.binOp .geq T x y T',ty,pos,after,gd⟩ σ st i (.bool (decide (b≤a))) st:=fun F g ac w hw hi hs=>
  goes_value (u:= .bool (decide (b≤a))) (by simp [execOp,AV.val_holds.1 (Ev.holds hx hs (by simp [Op.operands])),AV.val_holds.1 (Ev.holds hy hs (by simp [Op.operands])),eqGuard,binOp,Op.intCmp,bne]) ⟨g,Ghost.to.refl g i,hw,AV.val_self _⟩
theorem y_eql (hx:Ev σ x (.val (.int k a))) (hy:Ev σ y (.val (.int k b))):Yields P ⟨d,.binOp .eql T x y T',ty,pos,after,gd⟩ σ st i (.bool (decide (a=b))) st:=fun F g ac w hw hi hs=>
  goes_value (u:= .bool (decide (a=b))) (by simp [execOp,AV.val_holds.1 (Ev.holds hx hs (by simp [Op.operands])),AV.val_holds.1 (Ev.holds hy hs (by simp [Op.operands])),eqGuard,binOp,Op.intCmp,bne];by_cases h:a=b<;>simp [h]) ⟨g,Ghost.to.refl g i,hw,AV.val_self _⟩
theorem y_neq (hx:Ev σ x (.val (.int k a))) (hy:Ev σ y (.val (.int k b))):Yields P ⟨d,.binOp .neq T x y T',ty,pos,after,gd⟩ σ st i (.bool (!decide (a=b))) st:=fun F g ac w hw hi hs=>
  goes_value (u:= .bool (!decide (a=b))) (by simp [execOp,AV.val_holds.1 (Ev.holds hx hs (by simp [Op.operands])),AV.val_holds.1 (Ev.holds hy hs (by simp [Op.operands])),eqGuard,binOp,Op.intCmp,bne];by_cases h:a=b<;>simp [h]) ⟨g,Ghost.to.refl g i,hw,AV.val_self _⟩
theorem y_addw (hx:Ev σ x (.val (.int k a))) (hy:Ev σ y (.val (.int k b))):Yields P ⟨d,.binOp .add T x y T',ty,pos,after,gd⟩ σ st i (.val (.int k (k.wrap (a+b)))) st:=fun F g ac w hw hi hs=>
  goes_value (u:= .int k (k.wrap (a+b))) (by simp [execOp,AV.val_holds.1 (hx.holds hs (by simp [Op.operands])),AV.val_holds.1 (hy.holds hs (by simp [Op.operands])),eqGuard,binOp,Op.intArith]) ⟨g,Ghost.to.refl g i,hw,AV.val_self _⟩
theorem y_subw (hx:Ev σ x (.val (.int k a))) (hy:Ev σ y (.val (.int k b))):Yields P ⟨d,.binOp .sub T x y T',ty,pos,after,gd⟩ σ st i (.val (.int k (k.wrap (a - b)))) st:=fun F g ac w hw hi hs=>
  goes_value (u:= .int k (k.wrap (a - b))) (by simp [execOp,AV.val_holds.1 (hx.holds hs (by simp [Op.operands])),AV.val_holds.1 (hy.holds hs (by simp [Op.operands])),eqGuard,binOp,Op.intArith]) ⟨g,Ghost.to.refl g i,hw,AV.val_self _⟩
theorem y_mulw (hx:Ev σ x (.val (.int k a))) (hy:Ev σ y (.val (.int k b))):Yields P ⟨d,.binOp .mul T x y T',ty,pos,after,gd⟩ σ st i (.val (.int k (k.wrap (a*b)))) st:=fun F g ac w hw hi hs=>
  goes_value (u:= .int k (k.wrap (a*b))) (by simp [execOp,AV.val_holds.1 (hx.holds hs (by simp [Op.operands])),AV.val_holds.1 (hy.holds hs (by simp [Op.operands])),eqGuard,binOp,Op.intArith]) ⟨g,Ghost.to.refl g i,hw,AV.val_self _⟩
theorem wrap_in {n:Int} (h: -9223372036854775808≤n∧n≤9223372036854775807):IntKind.i64.wrap n=n:=by rw [IntKind.wrap_i64];omega
theorem y_add (hx:Ev σ x (.int a)) (hy:Ev σ y (.int b)) (h: -9223372036854775808≤a+b∧a+b≤9223372036854775807):Yields P ⟨d,.binOp .add T x y T',ty,pos,after,gd⟩ σ st i (.int (a+b)) st:=by
  have:=y_addw (P:=P) (st:=st) (i:=i) (d:=d) (ty:=ty) (pos:=pos) (after:=after) (gd:=gd) (T:=T) (T':=T') hx hy;rwa [wrap_in h] at this
theorem y_sub (hx:Ev σ x (.int a)) (hy:Ev σ y (.int b)) (h: -9223372036854775808≤a - b∧a - b≤9223372036854775807):Yields P ⟨d,.binOp .sub T x y T',ty,pos,after,gd⟩ σ st i (.int (a - b)) st:=by
  have:=y_subw (P:=P) (st:=st) (i:=i) (d:=d) (ty:=ty) (pos:=pos) (after:=after) (gd:=gd) (T:=T) (T':=T') hx hy;rwa [wrap_in h] at this
theorem y_mul (hx:Ev σ x (.int a)) (hy:Ev σ y (.int b)) (h: -9223372036854775808≤a*b∧a*b≤9223372036854775807):Yields P ⟨d,.binOp .mul T x y T',ty,pos,after,gd⟩ σ st i (.int (a*b)) st:=by
  have:=y_mulw (P:=P) (st:=st) (i:=i) (d:=d) (ty:=ty) (pos:=pos) (after:=after) (gd:=gd) (T:=T) (T':=T') hx hy;rwa [wrap_in h] at this
theorem y_quo (hx:Ev σ x (.int a)) (hy:Ev σ y (.int b)) (hb:b≠0) (h: -9223372036854775808≤a.tdiv b∧a.tdiv b≤9223372036854775807):Yields P ⟨d,.binOp .quo T x y T',ty,pos,after,gd⟩ σ st i (.int (a.tdiv b)) st:=fun F g ac w hw hi hs=>
  goes_value (u:= .int .i64 (a.tdiv b)) (by simp [execOp,AV.val_holds.1 (hx.holds hs (by simp [Op.operands])),AV.val_holds.1 (hy.holds hs (by simp [Op.operands])),eqGuard,binOp,Op.intDiv,hb,wrap_in h]) ⟨g,Ghost.to.refl g i,hw,AV.val_self _⟩
theorem y_rem (hx:Ev σ x (.val (.int k a))) (hy:Ev σ y (.val (.int k b))) (hb:b≠0):Yields P ⟨d,.binOp .rem T x y T',ty,pos,after,gd⟩ σ st i (.val (.int k (a.tmod b))) st:=fun F g ac w hw hi hs=>
  goes_value (u:= .int k (a.tmod b)) (by simp [execOp,AV.val_holds.1 (hx.holds hs (by simp [Op.operands])),AV.val_holds.1 (hy.holds hs (by simp [Op.operands])),eqGuard,binOp,Op.intDiv,hb]) ⟨g,Ghost.to.refl g i,hw,AV.val_self _⟩
end bin
end
end Go.Aw
namespace Go.Aw
open Go.RowKit (Below)
theorem AV.agg_holds {g:Ghost} {cs:List AV} {v:Value}:(AV.agg cs).holds g v↔ ∃ vs:List Value,v= .agg vs.toArray∧holdsL g cs vs∧ ∀ u∈vs,u.oneCell'=true:=by unfold AV.agg;rfl
theorem AV.tup_holds {g:Ghost} {cs:List AV} {v:Value}:(AV.tup cs).holds g v↔ ∃ vs:List Value,v= .tuple vs.toArray∧holdsL g cs vs:=by unfold AV.tup;rfl
theorem AV.clo_holds {g:Ghost} {f:Nat} {cs:List AV} {v:Value}:(AV.clo f cs).holds g v↔ ∃ vs:List Value,v= .func (.func f) #[] vs.toArray∧holdsL g cs vs:=by unfold AV.clo;rfl
theorem AV.ptr_holds {g:Ghost} {i off:Nat} {v:Value}:(AV.ptr i off).holds g v↔ ∃ b p s,g.loc i=some (b,p,s)∧v= .pointer (some ⟨b,off,none⟩):=by unfold AV.ptr;rfl
theorem AV.arr_holds {g:Ghost} {i off len:Nat} {v:Value}:(AV.arr i off len).holds g v↔ ∃ b p s cap,g.loc i=some (b,p,s)∧v= .slice (some ⟨b,off,none⟩) len cap∧len≤cap:=by unfold AV.arr;rfl
theorem AV.eptr_holds {g:Ghost} {cs:List AV} {v:Value}:(AV.eptr cs).holds g v↔ ∃ b o,v= .pointer (some ⟨b,o,none⟩)∧comRow g b o cs:=by unfold AV.eptr;rfl
theorem AV.sl_holds {g:Ghost} {sz:Nat} {xs:List (List AV)} {v:Value}:(AV.sl sz xs).holds g v↔ ∃ a cap,v= .slice a xs.length cap∧xs.length≤cap∧AV.rows g a sz xs:=by unfold AV.sl;rfl
theorem AV.full_holds {g:Ghost} {sz:Nat} {xs:List (List AV)} {v:Value}:(AV.full sz xs).holds g v↔ ∃ a,v= .slice a xs.length xs.length∧(a=none→xs=[])∧AV.rows g a sz xs:=by unfold AV.full;rfl
theorem AV.own_holds {g:Ghost} {sz i:Nat} {xs:List (List AV)} {v:Value}:(AV.own sz i xs).holds g v↔ ∃ b pos S off cap,g.loc i=some (b,pos,S)∧v= .slice (some ⟨b,off,none⟩) xs.length cap∧xs.length≤cap∧(∀ x∈xs,x.length=sz)∧comRow g b off xs.flatten∧off+xs.length*sz=pos∧off+cap*sz≤S:=by unfold AV.own;rfl
class Rd (av:AV) (sz:Nat) (xs:outParam (List (List AV))):Prop where
  imp:av.Imp (.sl sz xs)
instance {sz:Nat} {xs:List (List AV)}:Rd (.sl sz xs) sz xs:=⟨AV.Imp.refl _⟩
instance {sz:Nat} {xs:List (List AV)}:Rd (.full sz xs) sz xs:=⟨fun g u h=>by
  rw [AV.full_holds] at h;rw [AV.sl_holds];obtain⟨a,h1,_,h2⟩:=h;exact⟨a,_,h1,Nat.le_refl _,h2⟩⟩
instance {sz i:Nat} {xs:List (List AV)}:Rd (.own sz i xs) sz xs:=⟨fun g u h=>by
  rw [AV.own_holds] at h;rw [AV.sl_holds];obtain⟨b,pos,S,off,cap,h0,h1,h2,h3,h4,_⟩:=h;exact⟨_,_,h1,h2,h3,fun _=>⟨b,off,rfl,h4⟩⟩⟩
instance {sz:Nat}:Rd (.val (.slice none 0 0)) sz []:=⟨fun g u h=>by
  rw [AV.val_holds] at h;subst h;rw [AV.sl_holds];exact⟨none,0,rfl,Nat.le_refl _,by simp,fun h=>absurd rfl h⟩⟩
instance {sz:Nat} {t:Option Nat} {xs:List (List AV)}:Rd (.grow sz t xs) sz xs:=by
  cases t with
  |none=>exact inferInstanceAs (Rd (.full sz xs) sz xs)
  |some i=>exact inferInstanceAs (Rd (.own sz i xs) sz xs)
theorem AV.nil_full {sz:Nat}:(AV.val (.slice none 0 0)).Imp (.full sz []):=fun g u h=>by
  rw [AV.val_holds] at h;subst h;rw [AV.full_holds];exact⟨none,rfl,fun _=>rfl,by simp,fun h=>absurd rfl h⟩
def fieldS (P:Program) (T:TypeId) (f:Nat):Option (TypeId×Nat×Nat):=match P.underlying T with|some (.struct fs)=>(fs[f]?).bind fun x=>(sizeB P x.type).map fun s=>(x.type,x.offset,s)|_=>none
theorem fieldS_spec {P:Program} {T f E off sz:Nat} (h:fieldS P T f=some (E,off,sz)): ∃ fs x,P.underlying T=some (.struct fs)∧fs[f]?=some x∧x.type=E∧x.offset=off∧sizeB P E=some sz:=by
  unfold fieldS at h;split at h
  ·rename_i fs hu;cases hx:fs[f]? with
   |none=>simp [hx] at h
   |some x=>
    cases hs:sizeB P x.type with
    |none=>simp [hx,hs] at h
    |some s=>
     simp [hx,hs] at h;obtain⟨rfl,rfl,rfl⟩:=h;exact⟨fs,x,hu,hx,rfl,rfl,hs⟩
  ·cases h
class FldT (P:Program) (T:TypeId) (f:Nat) (E off sz:outParam Nat):Prop where
  out:fieldS P T f=some (E,off,sz)
  pos:sz≠0
section
variable {P:Program} {σ:Fr} {st:List Item} {i:Nat} {d:Option Tmp} {ty:TypeId} {pos:String} {after:Array Edge} {gd:Option (Nat×Bool)} {w:World}
theorem run_fieldAt' {T f E off sz:Nat} [h:FldT P T f E off sz] (b o:Nat):(Instr.fieldAt T (.pointer (some ⟨b,o,none⟩)) f).run P w= .ok (.pointer (some ⟨b,o+off,none⟩)) w:=by
  obtain⟨fs,x,hu,hx,e1,e2,hs⟩:=fieldS_spec h.out;simp [Instr.fieldAt,run_underlying hu,hx,Instr.sureAddr,fieldPlace,e1,e2,run_sizeOf hs,h.pos,Addr.add_mk]
theorem y_fieldPtr {T f E off sz j o:Nat} {x:Operand} [FldT P T f E off sz] (hx:Ev σ x (.ptr j o)):Yields P ⟨d,.fieldAddr T x f,ty,pos,after,gd⟩ σ st i (.ptr j (o+off)) st:=fun F g a w hw hi hs=>by
  obtain⟨b,p,s,hl,e⟩:=AV.ptr_holds.1 (hx.holds hs (by simp [Op.operands]));exact goes_value (u:= .pointer (some ⟨b,o+off,none⟩)) (by simp [execOp,e,run_fieldAt']) ⟨g,Ghost.to.refl g i,hw,AV.ptr_holds.2 ⟨b,p,s,hl,rfl⟩⟩
theorem y_fieldE {T f E off sz:Nat} {cs:List AV} {x:Operand} [FldT P T f E off sz] (hx:Ev σ x (.eptr cs)) (hl:off≤cs.length):Yields P ⟨d,.fieldAddr T x f,ty,pos,after,gd⟩ σ st i (.eptr (cs.drop off)) st:=fun F g a w hw hi hs=>by
  obtain⟨b,o,e,hr⟩:=AV.eptr_holds.1 (hx.holds hs (by simp [Op.operands]));exact goes_value (u:= .pointer (some ⟨b,o+off,none⟩)) (by simp [execOp,e,run_fieldAt']) ⟨g,Ghost.to.refl g i,hw,AV.eptr_holds.2 ⟨b,_,rfl,hr.drop off hl⟩⟩
theorem part_scalar {T:TypeId} [ht:ScalarT P T] {cs:Array Value} {o:Nat} {v:Value} (h:cs[o]?=some v):(part T cs o).run P w= .ok v w:=by
  unfold part;rw [Sem.run_bind,run_isAgg ht.agg];simp [h]
theorem run_field' {T f E off sz:Nat} [h:FldT P T f E off sz] {cs:Array Value} {r:Value} (hp:(part E cs off).run P w= .ok r w):(Instr.field T (.agg cs) f).run P w= .ok r w:=by
  obtain⟨fs,x,hu,hx,e1,e2,hs⟩:=fieldS_spec h.out;simp [Instr.field,run_underlying hu,hx,asAgg,e1,e2,hp]
theorem y_field {T f E off sz:Nat} {cs:List AV} {x:Operand} {v:AV} [FldT P T f E off sz] [ScalarT P E] (hx:Ev σ x (.agg cs)) (hv:cs[off]?=some v):Yields P ⟨d,.field T x f,ty,pos,after,gd⟩ σ st i v st:=fun F g a w hw hi hs=>by
  obtain⟨vs,e,hr,_⟩:=AV.agg_holds.1 (hx.holds hs (by simp [Op.operands]));obtain⟨u,hu,hh⟩:=hr.get _ _ hv;refine goes_value (u:=u) (by simp only [execOp,e];rw [Sem.run_bind,run_field' (part_scalar (v:=u) (by simpa using hu))];rfl) ⟨g,Ghost.to.refl g i,hw,hh⟩
theorem y_extract {x:Operand} {k:Nat} {vs:List AV} {v:AV} (hx:Ev σ x (.tup vs)) (hv:vs[k]?=some v):Yields P ⟨d,.extract x k,ty,pos,after,gd⟩ σ st i v st:=fun F g a w hw hi hs=>by
  obtain⟨us,e,hr⟩:=AV.tup_holds.1 (hx.holds hs (by simp [Op.operands]));obtain⟨u,hu,hh⟩:=hr.get _ _ hv;exact goes_value (u:=u) (by simp [execOp,e,Instr.extract,hu]) ⟨g,Ghost.to.refl g i,hw,hh⟩
theorem y_makeFunc {f:Nat} {caps:Array Operand} {vs:List AV} (hx:EvL σ caps.toList vs):Yields P ⟨d,.makeFunc (.func f) #[] caps,ty,pos,after,gd⟩ σ st i (.clo f vs) st:=fun F g a w hw hi hs=>by
  have h:=hx.holds hs (by simp [Op.operands]);exact goes_value (u:= .func (.func f) #[] (caps.map a.eval)) (by simp [execOp,Instr.makeFunc]) ⟨g,Ghost.to.refl g i,hw,AV.clo_holds.2 ⟨_,by congr 1;apply Array.ext';simp,h⟩⟩
theorem y_len {T E sz by_:Nat} {x:Operand} {av:AV} {xs:List (List AV)} [ht:SliceT P T E sz by_] [hr:Rd av sz xs] (hx:Ev σ x av):Yields P ⟨d,.call {callee:= .builtin .len,args:= #[x],argTypes:= #[T]},ty,pos,after,gd⟩ σ st i (.int (xs.length:Int)) st:=fun F g a w hw hi hs=>by
  obtain⟨ad,cap,e,_⟩:=AV.sl_holds.1 (hr.imp _ _ (hx.holds hs (by simp [Op.operands,Call.operands])));exact goes_value (u:= .int .i64 (xs.length:Int)) (by simp [execOp,resolve,invoke,builtin,e,Builtin.len_,run_underlying ht.und,goInt]) ⟨g,Ghost.to.refl g i,hw,AV.val_self _⟩
theorem y_lenArr {T E sz by_ j off n:Nat} {x:Operand} [ht:SliceT P T E sz by_] (hx:Ev σ x (.arr j off n)):Yields P ⟨d,.call {callee:= .builtin .len,args:= #[x],argTypes:= #[T]},ty,pos,after,gd⟩ σ st i (.int (n:Int)) st:=fun F g a w hw hi hs=>by
  obtain⟨b,p,s,cap,_,e,_⟩:=AV.arr_holds.1 (hx.holds hs (by simp [Op.operands,Call.operands]));exact goes_value (u:= .int .i64 (n:Int)) (by simp [execOp,resolve,invoke,builtin,e,Builtin.len_,run_underlying ht.und,goInt]) ⟨g,Ghost.to.refl g i,hw,AV.val_self _⟩
theorem flatten_get {α:Type} {sz:Nat}: ∀ {xs:List (List α)} (h: ∀ x∈xs,x.length=sz) (k:Nat) (x:List α),xs[k]?=some x→(xs.flatten.drop (k*sz)).take sz=x
  | [],_,k,x,hk=>by simp at hk
  |y::xs,h,0,x,hk=>by
   simp at hk;subst hk;have:=h y (by simp);simp [←this]
  |y::xs,h,k+1,x,hk=>by
   have hy:=h y (by simp);have:=flatten_get (xs:=xs) (fun z hz=>h z (by simp [hz])) k x (by simpa using hk);rw [←this];simp only [List.flatten_cons];rw [show (k+1)*sz=y.length+k*sz by rw [hy,Nat.add_mul];omega,←List.drop_drop,List.drop_left'];rfl
theorem flatten_len {α:Type} {sz:Nat}: ∀ {xs:List (List α)} (h: ∀ x∈xs,x.length=sz),xs.flatten.length=xs.length*sz
  | [],_=>by simp
  |y::xs,h=>by
   simp only [List.flatten_cons,List.length_append,List.length_cons];rw [flatten_len (xs:=xs) (fun z hz=>h z (by simp [hz])),h y (by simp),Nat.add_mul];omega
theorem flatten_drop {α:Type} {sz:Nat}: ∀ {xs:List (List α)} (h: ∀ x∈xs,x.length=sz) (k:Nat),(xs.drop k).flatten=xs.flatten.drop (k*sz)
  |xs,_,0=>by simp
  | [],_,k+1=>by simp
  |y::xs,h,k+1=>by
   have hy:=h y (by simp);simp only [List.drop_succ_cons,List.flatten_cons];rw [flatten_drop (xs:=xs) (fun z hz=>h z (by simp [hz])) k,show (k+1)*sz=y.length+k*sz by rw [hy,Nat.add_mul];omega,←List.drop_drop,List.drop_left'];rfl
theorem flatten_take {α:Type} {sz:Nat}: ∀ {xs:List (List α)} (h: ∀ x∈xs,x.length=sz) (k:Nat),(xs.take k).flatten=xs.flatten.take (k*sz)
  |xs,_,0=>by simp
  | [],_,k+1=>by simp
  |y::xs,h,k+1=>by
   have hy:=h y (by simp);simp only [List.take_succ_cons,List.flatten_cons];rw [flatten_take (xs:=xs) (fun z hz=>h z (by simp [hz])) k,show (k+1)*sz=y.length+k*sz by rw [hy,Nat.add_mul];omega,List.take_append,List.take_of_length_le (Nat.le_add_right _ _),Nat.add_sub_cancel_left]
theorem y_index {T E sz by_:Nat} {x ix:Operand} {av:AV} {xs:List (List AV)} {kd:IntKind} {q:Int} {c:List AV} [ht:SliceT P T E sz by_] [hr:Rd av sz xs] (hx:Ev σ x av) (hix:Ev σ ix (.val (.int kd q))) (h0:0≤q) (hc:xs[q.toNat]?=some c):
  Yields P ⟨d,.indexAddr T x ix,ty,pos,after,gd⟩ σ st i (.eptr c) st:=fun F g a w hw hi hs=>by
  obtain⟨ad,cap,e,hcap,h1,h2⟩:=AV.sl_holds.1 (hr.imp _ _ (hx.holds hs (by simp [Op.operands])));have e2:=AV.val_holds.1 (hix.holds hs (by simp [Op.operands]));have hlt:q.toNat<xs.length:=by
   rcases Nat.lt_or_ge q.toNat xs.length with h|h
   ·exact h
   ·simp [List.getElem?_eq_none h] at hc
  obtain⟨b,o,rfl,hrow⟩:=h2 (by intro e;subst e;simp at hlt);have hin:0≤q∧q<(xs.length:Int):=by omega
  refine goes_value (u:= .pointer (some ⟨b,o+q.toNat*sz,none⟩)) ?_ ⟨g,Ghost.to.refl g i,hw,AV.eptr_holds.2 ⟨b,_,rfl,?_⟩⟩
  ·simp [execOp,e,e2,Instr.indexAt,asIntOf,run_underlying ht.und,hin,run_sizeOf ht.hsize,Addr.add_mk]
  ·have:=(hrow.drop (q.toNat*sz) (by rw [flatten_len h1];exact Nat.mul_le_mul_right _ (Nat.le_of_lt hlt))).take sz;rwa [flatten_get h1 _ _ hc] at this
theorem y_indexMap {T E sz by_:Nat} {x ix:Operand} {av:AV} {α:Type} {l:List α} {f:α→List AV} {kd:IntKind} {q:Int} {k:Nat} {e:α} [ht:SliceT P T E sz by_] [hr:Rd av sz (l.map f)] (hx:Ev σ x av) (hix:Ev σ ix (.val (.int kd q))) (hq:q=(k:Int)) (he: ∃ h:k<l.length,l[k]=e):
  Yields P ⟨d,.indexAddr T x ix,ty,pos,after,gd⟩ σ st i (.eptr (f e)) st:=
  y_index hx hix (by omega) (by obtain⟨h,rfl⟩:=he;subst hq;simp [h])
theorem y_indexT {T E sz by_:Nat} {x ix:Operand} {av:AV} {α:Type} [Inhabited α] {l:List α} {f:α→List AV} {kd:IntKind} {q:Int} [ht:SliceT P T E sz by_] [hr:Rd av sz (l.map f)] (hx:Ev σ x av) (hix:Ev σ ix (.val (.int kd q))) (h0:0≤q) (hk:q.toNat<l.length):
  Yields P ⟨d,.indexAddr T x ix,ty,pos,after,gd⟩ σ st i (.eptr (f (l.getD q.toNat default))) st:=
  y_index hx hix h0 (by simp [List.getD,hk])
theorem y_indexArr {T E sz by_ j off n:Nat} {x ix:Operand} {kd:IntKind} {q:Int} [ht:SliceT P T E sz by_] (hx:Ev σ x (.arr j off n)) (hix:Ev σ ix (.val (.int kd q))) {k:Nat} (hq:q=(k:Int)) (hk:k<n):
  Yields P ⟨d,.indexAddr T x ix,ty,pos,after,gd⟩ σ st i (.ptr j (off+k*sz)) st:=fun F g a w hw hi hs=>by
  obtain⟨b,p,s,cap,hl,e,_⟩:=AV.arr_holds.1 (hx.holds hs (by simp [Op.operands]));have e2:=AV.val_holds.1 (hix.holds hs (by simp [Op.operands]));subst hq;refine goes_value (u:= .pointer (some ⟨b,off+k*sz,none⟩)) ?_ ⟨g,Ghost.to.refl g i,hw,AV.ptr_holds.2 ⟨b,p,s,hl,rfl⟩⟩;simp [execOp,e,e2,Instr.indexAt,asIntOf,run_underlying ht.und,hk,run_sizeOf ht.hsize,Addr.add_mk]
theorem y_indexVar {T len E sz j off:Nat} {x ix:Operand} {kd:IntKind} {q:Int} [ht:ArrayT P T len E sz] (hx:Ev σ x (.ptr j off)) (hix:Ev σ ix (.val (.int kd q))) {k:Nat} (hq:q=(k:Int)) (hk:k<len):
  Yields P ⟨d,.indexAddr T x ix,ty,pos,after,gd⟩ σ st i (.ptr j (off+k*sz)) st:=fun F g a w hw hi hs=>by
  obtain⟨b,p,s,hl,e⟩:=AV.ptr_holds.1 (hx.holds hs (by simp [Op.operands]));have e2:=AV.val_holds.1 (hix.holds hs (by simp [Op.operands]));subst hq;refine goes_value (u:= .pointer (some ⟨b,off+k*sz,none⟩)) ?_ ⟨g,Ghost.to.refl g i,hw,AV.ptr_holds.2 ⟨b,p,s,hl,rfl⟩⟩;simp [execOp,e,e2,Instr.indexAt,asIntOf,run_underlying ht.und,Instr.sureAddr,hk,run_sizeOf ht.hsize,Addr.add_mk]
end
end Go.Aw
namespace Go.Aw
open Go.RowKit (Below)
section
variable {P:Program} {σ:Fr} {st:List Item} {i:Nat} {d:Option Tmp} {ty:TypeId} {pos:String} {after:Array Edge} {gd:Option (Nat×Bool)} {w:World}
theorem run_slice_lo {T E sz by_:Nat} [ht:SliceT P T E sz by_] (a:Option Addr) (len cap l:Nat) (k:IntKind) (h1:l≤len) (h2:len≤cap):
  (Instr.sliceAt T (.slice a len cap) (some (.int k l)) none none).run P w= .ok (.slice (if cap=l then a else a.map (·.add (l*sz))) (len - l) (cap - l)) w:=by
  have e:0≤(l:Int)∧(l:Int)≤(len:Int):=by omega
  simp [Instr.sliceAt,Instr.slice,run_underlying ht.und,Instr.sliceBounds,Instr.sliceBound,asIntOf,h1,Nat.not_lt.2 h1,run_sizeOf ht.hsize]
theorem run_slice_hi {T E sz by_:Nat} [ht:SliceT P T E sz by_] (a:Option Addr) (len cap h:Nat) (k:IntKind) (h1:h≤cap):
  (Instr.sliceAt T (.slice a len cap) none (some (.int k h)) none).run P w= .ok (.slice (if cap=0 then a else a.map (·.add (0*sz))) (h - 0) (cap - 0)) w:=by
  have e:0≤(h:Int)∧(h:Int)≤(cap:Int):=by omega
  simp [Instr.sliceAt,Instr.slice,run_underlying ht.und,Instr.sliceBounds,Instr.sliceBound,asIntOf,h1,Nat.not_lt.2 h1,run_sizeOf ht.hsize]
theorem rows_cut {g:Ghost} {a:Option Addr} {sz:Nat} {xs:List (List AV)} (h:AV.rows g a sz xs) (l n m:Nat) (hm:m=l→n≤l) (hn:n≤xs.length):AV.rows g (if m=l then a else a.map (·.add (l*sz))) sz ((xs.take n).drop l):=by
  obtain⟨h1,h2⟩:=h;refine⟨fun x hx=>h1 x (List.mem_of_mem_take (List.mem_of_mem_drop hx)),fun hne=> ?_⟩;have hlt:l<n:=by
   rcases Nat.lt_or_ge l n with h|h
   ·exact h
   ·exact absurd (List.drop_eq_nil_of_le (by simp;omega)) hne
  obtain⟨b,o,rfl,hr⟩:=h2 (by intro e;subst e;simp at hn;omega);rw [if_neg (fun e=>by have:=hm e;omega)];refine⟨b,o+l*sz,by simp [Addr.add_mk],?_⟩;have h3: ∀ x∈xs.take n,x.length=sz:=fun x hx=>h1 x (List.mem_of_mem_take hx);rw [flatten_drop h3,flatten_take h1];refine (hr.take (n*sz)).drop (l*sz) ?_;rw [List.length_take,flatten_len h1,Nat.le_min];exact⟨Nat.mul_le_mul_right _ (Nat.le_of_lt hlt),Nat.mul_le_mul_right _ (by omega)⟩
section sl
variable {T E sz by_:Nat} {x lo hi mx:Operand} {av:AV} {xs:List (List AV)} {k k' k'':IntKind} {l h m:Nat} {ql qh qm:Int}
theorem y_sliceLo [ht:SliceT P T E sz by_] [hr:Rd av sz xs] (hx:Ev σ x av) (hlo:Ev σ lo (.val (.int k ql))) {l:Nat} (e:ql=(l:Int)) (h1:l≤xs.length):
  Yields P ⟨d,.slice T x (some lo) none none,ty,pos,after,gd⟩ σ st i (.sl sz (xs.drop l)) st:=fun F g a w hw hi hs=>by
  subst e;obtain⟨ad,cap,e,hcap,hrow⟩:=AV.sl_holds.1 (hr.imp _ _ (hx.holds hs (by simp [Op.operands])));have e2:=AV.val_holds.1 (hlo.holds hs (by simp [Op.operands]));have:=rows_cut hrow l xs.length cap (fun e=>by omega) (Nat.le_refl _);rw [List.take_length] at this;exact goes_value (by simp only [execOp,e,e2,Option.map_some,Option.map_none];rw [Sem.run_bind,run_slice_lo ad _ _ _ _ h1 hcap];rfl)
   ⟨g,Ghost.to.refl g i,hw,AV.sl_holds.2 ⟨_,_,by rw [List.length_drop],by rw [List.length_drop];omega,this⟩⟩
theorem y_sliceHi [ht:SliceT P T E sz by_] [hr:Rd av sz xs] (hx:Ev σ x av) (hhi:Ev σ hi (.val (.int k qh))) {h:Nat} (e:qh=(h:Int)) (h1:h≤xs.length):
  Yields P ⟨d,.slice T x none (some hi) none,ty,pos,after,gd⟩ σ st i (.sl sz (xs.take h)) st:=fun F g a w hw hi hs=>by
  subst e;obtain⟨ad,cap,e,hcap,hrow⟩:=AV.sl_holds.1 (hr.imp _ _ (hx.holds hs (by simp [Op.operands])));have e2:=AV.val_holds.1 (hhi.holds hs (by simp [Op.operands]));have:=rows_cut hrow 0 h cap (fun e=>by omega) h1;rw [List.drop_zero] at this;exact goes_value (by simp only [execOp,e,e2,Option.map_some,Option.map_none];rw [Sem.run_bind,run_slice_hi ad _ _ _ _ (Nat.le_trans h1 hcap)];rfl)
   ⟨g,Ghost.to.refl g i,hw,AV.sl_holds.2 ⟨_,_,by rw [List.length_take,Nat.min_eq_left h1];rfl,by rw [List.length_take];omega,this⟩⟩
theorem y_sliceLoM {α:Type} {ls:List α} {f:α→List AV} [ht:SliceT P T E sz by_] [hr:Rd av sz (ls.map f)] (hx:Ev σ x av) (hlo:Ev σ lo (.val (.int k ql))) {l:Nat} (e:ql=(l:Int)) (h1:l≤ls.length):
  Yields P ⟨d,.slice T x (some lo) none none,ty,pos,after,gd⟩ σ st i (.sl sz ((ls.drop l).map f)) st:=by
  rw [List.map_drop];exact y_sliceLo hx hlo e (by simpa using h1)
theorem y_sliceHiM {α:Type} {ls:List α} {f:α→List AV} [ht:SliceT P T E sz by_] [hr:Rd av sz (ls.map f)] (hx:Ev σ x av) (hhi:Ev σ hi (.val (.int k qh))) {h:Nat} (e:qh=(h:Int)) (h1:h≤ls.length):
  Yields P ⟨d,.slice T x none (some hi) none,ty,pos,after,gd⟩ σ st i (.sl sz ((ls.take h).map f)) st:=by
  rw [List.map_take];exact y_sliceHi hx hhi e (by simpa using h1)
end sl
class One (v:AV):Prop where
  one: ∀ g u,v.holds g u→u.oneCell'=true
class Cells (v:AV) (cs:outParam (List AV)):Prop where
  cells: ∀ g u,v.holds g u→ ∃ us:List Value,u.cells=us.toArray∧holdsL g cs us∧ ∀ x∈us,x.oneCell'=true
instance {cs:List AV}:Cells (.agg cs) cs:=⟨fun g u h=>by
  obtain⟨vs,e,h1,h2⟩:=AV.agg_holds.1 h;exact⟨vs,by rw [e];rfl,h1,h2⟩⟩
theorem cells_of_one {u:Value} (h:u.oneCell'=true):u.cells= #[u]:=by cases u<;>first|rfl|simp [Value.oneCell'] at h
instance (priority:=low) {v:AV} [o:One v]:Cells v [v]:=⟨fun g u h=>⟨[u],by rw [cells_of_one (o.one g u h)],⟨h,trivial⟩,by simpa using o.one g u h⟩⟩
instance {k:IntKind} {n:Int}:One (.val (.int k n)):=⟨fun g u h=>by rw [AV.val_holds] at h;subst h;rfl⟩
instance {b:Bool}:One (.val (.bool b)):=⟨fun g u h=>by rw [AV.val_holds] at h;subst h;rfl⟩
instance {s:ByteArray}:One (.val (.string s)):=⟨fun g u h=>by rw [AV.val_holds] at h;subst h;rfl⟩
instance {a:Option Addr} {l c:Nat}:One (.val (.slice a l c)):=⟨fun g u h=>by rw [AV.val_holds] at h;subst h;rfl⟩
instance {f:Fn} {a b:Array Value}:One (.val (.func f a b)):=⟨fun g u h=>by rw [AV.val_holds] at h;subst h;rfl⟩
instance {sz:Nat} {xs:List (List AV)}:One (.sl sz xs):=⟨fun g u h=>by obtain⟨_,_,e,_⟩:=AV.sl_holds.1 h;rw [e];rfl⟩
instance {sz:Nat} {xs:List (List AV)}:One (.full sz xs):=⟨fun g u h=>by obtain⟨_,e,_⟩:=AV.full_holds.1 h;rw [e];rfl⟩
instance {sz i:Nat} {xs:List (List AV)}:One (.own sz i xs):=⟨fun g u h=>by obtain⟨_,_,_,_,_,_,e,_⟩:=AV.own_holds.1 h;rw [e];rfl⟩
instance {sz:Nat} {t:Option Nat} {xs:List (List AV)}:One (.grow sz t xs):=by
  cases t with
  |none=>exact inferInstanceAs (One (.full sz xs))
  |some i=>exact inferInstanceAs (One (.own sz i xs))
instance {j off:Nat}:One (.ptr j off):=⟨fun g u h=>by obtain⟨_,_,_,_,e⟩:=AV.ptr_holds.1 h;rw [e];rfl⟩
instance {j off n:Nat}:One (.arr j off n):=⟨fun g u h=>by obtain⟨_,_,_,_,_,e,_⟩:=AV.arr_holds.1 h;rw [e];rfl⟩
instance {f:Nat} {cs:List AV}:One (.clo f cs):=⟨fun g u h=>by obtain⟨_,e,_⟩:=AV.clo_holds.1 h;rw [e];rfl⟩
def setMany {α:Type} (cs:List α) (o:Nat) (ds:List α):List α:=cs.take o++ds++cs.drop (o+ds.length)
theorem setMany_len {α:Type} {cs:List α} {o:Nat} {ds:List α} (h:o+ds.length≤cs.length):(setMany cs o ds).length=cs.length:=by
  simp only [setMany,List.length_append,List.length_take,List.length_drop];omega
theorem holdsL.setMany {g:Ghost} {cs ds:List AV} {vs us:List Value} (o:Nat) (h:holdsL g cs vs) (k:holdsL g ds us):holdsL g (Aw.setMany cs o ds) (Aw.setMany vs o us):=by
  unfold Aw.setMany;rw [k.length];exact ((h.take o).append k).append (h.drop _)
theorem foldl_set (off:Nat): ∀ (l:List Value) (k:Nat) (cells:Array Value),off+k+l.length≤cells.size→
  (l.zipIdx k).foldl (fun cs (x:Value×Nat)=>cs.setIfInBounds (off+x.2) x.1) cells=(setMany cells.toList (off+k) l).toArray
  | [],k,cells,_=>by
   apply Array.ext';simp [setMany]
  |v::l,k,cells,h=>by
   simp only [List.length_cons] at h;rw [List.zipIdx_cons,List.foldl_cons,foldl_set off l (k+1) _ (by simp;omega)];congr 1
   have e:=list_seg_step cells.toList (off+k) v l (by simp;omega);simpa [setMany,Array.toList_setIfInBounds,Nat.add_assoc] using e
theorem fill_step {place:Nat→Option (Nat×Nat)} {cells:Array Value} {j:Nat} {v:Value} {rest:List (Nat×Value)} {off:Nat} {us:List Value} (hp:place j=some (off,us.length)) (hv:v.cells=us.toArray) (hb:off+us.length≤cells.size):
  Instr.fill place cells ((j,v)::rest)=Instr.fill place (setMany cells.toList off us).toArray rest:=by
  rw [Instr.fill,hp];simp only [hv,List.size_toArray];rw [if_neg (by simp;omega)];have:=foldl_set off us 0 cells (by omega);simp only [Nat.add_zero] at this;rw [←this];congr 1
  simp [←Array.foldl_toList,Array.toList_zipIdx]
inductive PartsB (σ:Fr) (places:List (Nat×Nat)):List (Nat×Operand)→List (Nat×List AV)→Prop
  |nil:PartsB σ places [] []
  |cons {f:Nat} {x:Operand} {v:AV} {cs:List AV} {off:Nat} {ps qs} (h:Ev σ x v) (hc:Cells v cs) (hp:places[f]?=some (off,cs.length)) (r:PartsB σ places ps qs):PartsB σ places ((f,x)::ps) ((off,cs)::qs)
def fillA (cs:List AV):List (Nat×List AV)→List AV
  | []=>cs
  | (o,ds)::r=>fillA (setMany cs o ds) r
class StructT (P:Program) (T:TypeId) (places:outParam (List (Nat×Nat))):Prop where
  out:(match P.underlying T with|some (.struct fs)=>fs.toList.mapM (fun f=>(sizeB P f.type).map (fun s=>(f.offset,s)))|_=>none)=some places
theorem run_places {fs:List Field}: ∀ {pl:List (Nat×Nat)},fs.mapM (fun f=>(sizeB P f.type).map (fun s=>(f.offset,s)))=some pl→(fs.mapM (m:=Sem) (fun f=>do pure (f.offset,←sizeOf f.type))).run P w= .ok pl w:=by
  induction fs with
  |nil=>intro pl h;simp at h;subst h;rfl
  |cons f fs ih=>
   intro pl h;rw [List.mapM_cons] at h ⊢;cases hs:sizeB P f.type with
   |none=>simp [hs] at h
   |some s=>
    simp only [hs,Option.map_some,Option.bind_eq_bind,Option.bind_some] at h;cases hr:fs.mapM (fun f=>(sizeB P f.type).map (fun s=>(f.offset,s))) with
    |none=>simp [hr] at h
    |some r=>
     simp [hr] at h;subst h;have ih':=ih hr;rw [Sem.run_bind,Sem.run_bind,run_sizeOf hs];simp only [Result.andThen_ok,Sem.run_pure];rw [Sem.run_bind,ih'];rfl
theorem fill_parts {g:Ghost} {o:Oper} {a:Act} {places:List (Nat×Nat)} (hs:Slots g σ a (opTmps o)): ∀ {ps:List (Nat×Operand)} {qs:List (Nat×List AV)} (_:PartsB σ places ps qs) (hm: ∀ x∈ps,x.2∈o.op.operands)
  {cs:List AV} {vs:List Value} (hv:holdsL g cs vs) (h1: ∀ u∈vs,u.oneCell'=true) (hfit: ∀ q∈qs,q.1+q.2.length≤cs.length),
  ∃ us:List Value,Instr.fill (fun x=>places.toArray[x]?) vs.toArray (ps.map fun x=>(x.1,a.eval x.2))=some us.toArray∧holdsL g (fillA cs qs) us∧ ∀ u∈us,u.oneCell'=true:=by
  intro ps qs hp;induction hp with
  |nil=>intro _ cs vs hv h1 _;exact⟨vs,rfl,hv,h1⟩
  | @cons f x v ds off ps qs h hc hpl _ ih=>
   intro hm cs vs hv h1 hfit;obtain⟨us,e,k1,k2⟩:=hc.cells g _ (h.holds hs (hm (f,x) (by simp)));have hlen:=k1.length;have hl2:=hv.length;have hb:=hfit _ (by simp:(off,ds)∈(off,ds)::qs);simp only at hb;rw [List.map_cons,fill_step (us:=us) (off:=off) (by simp [hpl,hlen]) e (by simp;omega)];refine ih (fun y hy=>hm y (by simp [hy])) (hv.setMany off k1) ?_ ?_
   ·intro u hu;simp only [setMany,List.mem_append] at hu;rcases hu with (hu|hu)|hu
    ·exact h1 u (List.mem_of_mem_take hu)
    ·exact k2 u hu
    ·exact h1 u (List.mem_of_mem_drop hu)
   ·intro q hq;rw [setMany_len hb];exact hfit q (by simp [hq])
theorem holdsL_vals {g:Ghost}: ∀ (zs:List Value),holdsL g (zs.map .val) zs
  | []=>trivial
  |z::zs=>⟨AV.val_self z,holdsL_vals zs⟩
theorem zero_spec {T:TypeId} {zs:List Value} [h:ZeroT P T zs]: ∃ z,(zeroValue T).run P w= .ok z w∧z.cells=zs.toArray:=by
  have h1:=h.out;cases hi:P.info? T with
  |none=>simp [hi] at h1
  |some inf=>
   cases hz:inf.zero with
   |none=>simp [hi,hz] at h1
   |some z=>
    simp [hi,hz] at h1;refine⟨z,by simp [zeroValue,typeInfo,hi,hz],?_⟩;rw [←h1]
theorem y_build {T:TypeId} {parts:Array (Nat×Operand)} {places:List (Nat×Nat)} {zs:List Value} {qs:List (Nat×List AV)} {out:List AV} [ht:StructT P T places] [hz:ZeroT P T zs] (hp:PartsB σ places parts.toList qs)
  (hfit:(qs.all fun q=>decide (q.1+q.2.length≤zs.length))=true) (ho:fillA (zs.map .val) qs=out):Yields P ⟨d,.build T parts,ty,pos,after,gd⟩ σ st i (.agg out) st:=fun F g a w hw hi hs=>by
  have h1:=ht.out;split at h1
  ·rename_i fs hu;obtain⟨z,hzr,hzc⟩:=zero_spec (P:=P) (w:=w) (T:=T);obtain⟨us,e,k1,k2⟩:=fill_parts hs hp (fun x hx=>by simp only [Op.operands,List.mem_toArray];exact List.mem_map.2 ⟨x,hx,rfl⟩) (holdsL_vals (g:=g) zs) (fun u hu=>by have:=hz.one;rw [List.all_eq_true] at this;exact this u hu)
    (fun q hq=>by rw [List.all_eq_true] at hfit;simpa using hfit q hq)
   subst ho;refine goes_value (u:= .agg us.toArray) ?_ ⟨g,Ghost.to.refl g i,hw,AV.agg_holds.2 ⟨us,rfl,k1,k2⟩⟩;have hm:(fs.mapM (m:=Sem) (fun f=>do pure (f.offset,←sizeOf f.type))).run P w= .ok places.toArray w:=by
    rw [←Array.toArray_toList (xs:=fs),List.mapM_toArray];change Sem.run P (List.mapM _ fs.toList>>=fun x=>pure x.toArray) w=_;rw [Sem.run_bind,run_places h1];rfl
   have e':Instr.fill (fun x=>places.toArray[x]?) zs.toArray (parts.map fun x=>(x.1,a.eval x.2)).toList=some us.toArray:=by simpa using e
   simp only [execOp,Instr.build,Sem.run_bind,hzr,Result.andThen_ok,hzc,run_underlying hu,hm];simp only [e'];rfl
  ·cases h1
end
end Go.Aw
namespace Go.Aw
open Go.RowKit (Below)
inductive Upd:List Item→Item→Item→List Item→Prop
  |here {it it' st}:Upd (it::st) it it' (it'::st)
  |there {x st it it' st'} (h:Upd st it it' st'):Upd (x::st) it it' (x::st')
theorem Upd.perm {st st':List Item} {it it':Item} (h:Upd st it it' st'): ∃ r,st.Perm (it::r)∧st'.Perm (it'::r):=by
  induction h with
  |here=>exact⟨_,.refl _,.refl _⟩
  |there _ ih=>
   obtain⟨r,h1,h2⟩:=ih;exact⟨_,(List.Perm.cons _ h1).trans (List.Perm.swap _ _ _),(List.Perm.cons _ h2).trans (List.Perm.swap _ _ _)⟩
theorem RelW.take {g:Ghost} {st st' F:List Item} {it:Item} {w:World} (h:RelW g (st++F) w) (ht:Take st it st'):RelW g (it::(st'++F)) w:=h.perm (ht.perm.append_right F)
section
variable {P:Program} {σ:Fr} {st:List Item} {i:Nat} {d:Option Tmp} {ty:TypeId} {pos:String} {after:Array Edge} {gd:Option (Nat×Bool)} {w:World}
theorem y_loadE {T:TypeId} {x:Operand} {cs:List AV} {v:AV} [ScalarT P T] (hx:Ev σ x (.eptr cs)) (hv:cs[0]?=some v):Yields P ⟨d,.load T x,ty,pos,after,gd⟩ σ st i v st:=fun F g a w hw hi hs=>by
  obtain⟨b,o,e,hr⟩:=AV.eptr_holds.1 (hx.holds hs (by simp [Op.operands]));obtain⟨u,h1,h2,_⟩:=hr.get 0 v hv;rw [Nat.add_zero] at h1;refine goes_value (u:=u) ?_ ⟨g,Ghost.to.refl g i,hw,h2⟩;have hc:=hw.com _ _ _ h1;simp only [execOp,e,Instr.loadAt,Instr.sureAddr];rw [Sem.run_bind,Sem.run_bind,Sem.run_pure];simp only [Result.andThen_ok];rw [run_loadVar_scalar hc];rfl
theorem y_loadEAgg {T n:Nat} {x:Operand} {cs:List AV} [AggT P T n] (hx:Ev σ x (.eptr cs)) (hn:n≤cs.length):Yields P ⟨d,.load T x,ty,pos,after,gd⟩ σ st i (.agg (cs.take n)) st:=fun F g a w hw hi hs=>by
  obtain⟨b,o,e,hr⟩:=AV.eptr_holds.1 (hx.holds hs (by simp [Op.operands]));obtain⟨vs,h1,h2,h3⟩:=(hr.take n).values;refine goes_value (u:= .agg vs.toArray) ?_ ⟨g,Ghost.to.refl g i,hw,AV.agg_holds.2 ⟨vs,rfl,h1,h2⟩⟩;have hl:vs.length=n:=by rw [←h1.length];simp [hn]
  simp only [execOp,e,Instr.loadAt,Instr.sureAddr];rw [Sem.run_bind,Sem.run_bind,Sem.run_pure];simp only [Result.andThen_ok];rw [run_loadVar_agg hl (fun j v hj=>hw.com _ _ _ (h3 j v hj))];rfl
theorem cells_item {g:Ghost} {st st' F:List Item} {j:Nat} {cs:List AV} {w:World} (hw:RelW g (st++F) w) (ht:Take st (.cells j cs) st') {b p s:Nat} (hl:g.loc j=some (b,p,s)):
  ∃ vs E,w.heap[b]?=some (.cells vs E (0,0))∧holdsL g cs vs.toList∧(∀ u∈vs.toList,u.oneCell'=true):=by
  obtain⟨b',p',s',vs,E,h1,h2,h3,h4,_⟩:=(hw.take ht).items _ (List.mem_cons_self ..);rw [hl] at h1;cases h1;exact⟨vs,E,h2,h3,h4⟩
theorem y_load {T j off:Nat} {x:Operand} {cs:List AV} {st':List Item} {v:AV} [ScalarT P T] (hx:Ev σ x (.ptr j off)) (ht:Take st (.cells j cs) st') (hv:cs[off]?=some v):Yields P ⟨d,.load T x,ty,pos,after,gd⟩ σ st i v st:=fun F g a w hw hi hs=>by
  obtain⟨b,p,s,hl,e⟩:=AV.ptr_holds.1 (hx.holds hs (by simp [Op.operands]));obtain⟨vs,E,h1,h2,h3⟩:=cells_item hw ht hl;obtain⟨u,hu,hh⟩:=h2.get _ _ hv;refine goes_value (u:=u) ?_ ⟨g,Ghost.to.refl g i,hw,hh⟩;have hc:w.cell? ⟨b,off,none⟩=some u:=by simp [World.cell?,h1];simpa using hu
  simp only [execOp,e,Instr.loadAt,Instr.sureAddr];rw [Sem.run_bind,Sem.run_bind,Sem.run_pure];simp only [Result.andThen_ok];rw [run_loadVar_scalar hc];rfl
theorem y_loadAgg {T n j off:Nat} {x:Operand} {cs:List AV} {st':List Item} [AggT P T n] (hx:Ev σ x (.ptr j off)) (ht:Take st (.cells j cs) st') (hn:off+n≤cs.length):Yields P ⟨d,.load T x,ty,pos,after,gd⟩ σ st i (.agg ((cs.drop off).take n)) st:=fun F g a w hw hi hs=>by
  obtain⟨b,p,s,hl,e⟩:=AV.ptr_holds.1 (hx.holds hs (by simp [Op.operands]));obtain⟨vs,E,h1,h2,h3⟩:=cells_item hw ht hl;have h4:=(h2.drop off).take n;refine goes_value (u:= .agg ((vs.toList.drop off).take n).toArray) ?_ ⟨g,Ghost.to.refl g i,hw,AV.agg_holds.2 ⟨_,rfl,h4,fun u hu=>h3 u (List.mem_of_mem_drop (List.mem_of_mem_take hu))⟩⟩;have hlen:((vs.toList.drop off).take n).length=n:=by rw [←h4.length,List.length_take,List.length_drop];omega
  simp only [execOp,e,Instr.loadAt,Instr.sureAddr];rw [Sem.run_bind,Sem.run_bind,Sem.run_pure];simp only [Result.andThen_ok];rw [run_loadVar_agg hlen (fun j v hj=>by
   rw [List.getElem?_take] at hj;split at hj
   ·rw [List.getElem?_drop] at hj;simp [World.cell?,h1];simpa using hj
   ·cases hj)];rfl
theorem res_cellS {σ:Fr} {st st':List Item} {t T i:Nat} {cs:List AV} {v:AV} [ScalarT P T] (h:look σ t=some (.ptr i 0)) (ht:Take st (.cells i cs) st') (hv:cs[0]?=some v):ResOne P σ st (.cell t T) v:=
  .cell h fun F g w hw b p s hl=>by
   obtain⟨vs,E,h1,h2,h3⟩:=cells_item hw ht hl;obtain⟨u,hu,hh⟩:=h2.get _ _ hv;have hc:w.cell? ⟨b,0,none⟩=some u:=by simp [World.cell?,h1];simpa using hu
   exact⟨u,hh,run_loadVar_scalar hc⟩
theorem res_cellW {σ:Fr} {st st':List Item} {t T i n:Nat} {cs:List AV} [AggT P T n] (h:look σ t=some (.ptr i 0)) (ht:Take st (.cells i cs) st') (hn:cs.length=n):ResOne P σ st (.cell t T) (.agg cs):=
  .cell h fun F g w hw b p s hl=>by
   obtain⟨vs,E,h1,h2,h3⟩:=cells_item hw ht hl;refine⟨.agg vs,AV.agg_holds.2 ⟨vs.toList,by simp,h2,h3⟩,?_⟩;have:=run_loadVar_agg (P:=P) (w:=w) (T:=T) (b:=b) (o:=0) (vs:=vs.toList) (by rw [←h2.length,hn]) (fun j v hj=>by simp [World.cell?,h1];simpa using hj);simpa using this
theorem run_storeVar_at {T b o E:Nat} {vs:Array Value} {us:List Value} {v:Value} (hT:sizeB P T=some us.length) (hv:v.cells=us.toArray) (h1: ∀ x∈us,x.oneCell'=true) (hb:w.heap[b]?=some (.cells vs E (0,0))) (hfit:o+us.length≤vs.size):
  (storeVar T ⟨b,o,none⟩ v).run P w= .ok () (w.setRow b (setMany vs.toList o us).toArray):=by
  unfold storeVar;rw [Sem.run_bind,run_sizeOf hT];simp only [Result.andThen_ok,hv,List.size_toArray,ne_eq,not_true_eq_false,if_false];have:=run_storeCells_at P b o E us 0 vs w hb (by simpa using hfit) h1;simpa [setMany] using this
theorem y_store {T j off:Nat} {x y:Operand} {cs ds:List AV} {v:AV} {st':List Item} {n:Nat} [hc:Cells v ds] (hT:sizeB P T=some n) (hn:ds.length=n) (hx:Ev σ x (.ptr j off)) (hy:Ev σ y v) (hu:Upd st (.cells j cs) (.cells j (setMany cs off ds)) st') (hfit:off+n≤cs.length):
  Yields P ⟨d,.store T x y,ty,pos,after,gd⟩ σ st i (.val undef) st':=fun F g a w hw hi hs=>by
  obtain⟨b,p,s,hl,e⟩:=AV.ptr_holds.1 (hx.holds hs (by simp [Op.operands]));obtain⟨us,e2,k1,k2⟩:=hc.cells g _ (hy.holds hs (by simp [Op.operands]));obtain⟨r,p1,p2⟩:=hu.perm;have hw1:RelW g (.cells j cs::(r++F)) w:=hw.perm (p1.append_right F);obtain⟨b',p',s',vs,E,h1,h2,h3,h4,h5,h6⟩:=hw1.items _ (List.mem_cons_self ..);rw [hl] at h1;cases h1;have hl1:=h3.length;have hl2:=k1.length;have hrun:=run_storeVar_at (P:=P) (w:=w) (T:=T) (o:=off) (v:=a.eval y) (by rw [hT,←hn,hl2]) e2 k2 h2 (by simp at hl1;omega);refine goes_skip (w':=w.setRow b (setMany vs.toList off us).toArray) ?_ ⟨g,Ghost.to.refl g i,?_,AV.val_self _⟩
  ·simp only [execOp,e,Instr.storeAt,Instr.sureAddr];rw [Sem.run_bind,Sem.run_bind,Sem.run_pure];simp only [Result.andThen_ok];rw [hrun];rfl
  ·have:=hw1.storeCells (cs':=setMany cs off ds) hl (vs':=(setMany vs.toList off us).toArray) (h3.setMany off k1) (fun u hu=>by
    simp only [setMany,List.mem_append] at hu;rcases hu with (hu|hu)|hu
    ·exact h4 u (List.mem_of_mem_take hu)
    ·exact k2 u hu
    ·exact h4 u (List.mem_of_mem_drop hu))
   exact this.perm (p2.append_right F).symm
theorem setMany_all: ∀ {cs ds:List AV},ds.length=cs.length→setMany cs 0 ds=ds:=by
  intro cs ds h;simp [setMany,h]
theorem y_loadEW {T n:Nat} {x:Operand} {cs:List AV} [AggT P T n] (hx:Ev σ x (.eptr cs)) (hn:cs.length=n):Yields P ⟨d,.load T x,ty,pos,after,gd⟩ σ st i (.agg cs) st:=by
  have:=y_loadEAgg (P:=P) (T:=T) (d:=d) (ty:=ty) (pos:=pos) (after:=after) (gd:=gd) (st:=st) (i:=i) hx (Nat.le_of_eq hn.symm);rwa [←hn,List.take_length] at this
theorem y_loadW {T n j:Nat} {x:Operand} {cs:List AV} {st':List Item} [AggT P T n] (hx:Ev σ x (.ptr j 0)) (ht:Take st (.cells j cs) st') (hn:cs.length=n):Yields P ⟨d,.load T x,ty,pos,after,gd⟩ σ st i (.agg cs) st:=by
  have:=y_loadAgg (P:=P) (T:=T) (d:=d) (ty:=ty) (pos:=pos) (after:=after) (gd:=gd) (i:=i) hx ht (by omega);rwa [←hn,List.drop_zero,List.take_length] at this
theorem y_storeW {T j:Nat} {x y:Operand} {cs ds:List AV} {v:AV} {st':List Item} {n:Nat} [hc:Cells v ds] (hT:sizeB P T=some n) (hn:ds.length=n) (hx:Ev σ x (.ptr j 0)) (hy:Ev σ y v) (hu:Upd st (.cells j cs) (.cells j ds) st') (hm:cs.length=n):
  Yields P ⟨d,.store T x y,ty,pos,after,gd⟩ σ st i (.val undef) st':=
  y_store hT hn hx hy (by rw [setMany_all (hn.trans hm.symm)];exact hu) (by omega)
theorem y_alloc {T:Nat} {zs:List Value} [hz:ZeroT P T zs]:Yields P ⟨d,.alloc T,ty,pos,after,gd⟩ σ st i (.ptr i 0) (.cells i (zs.map .val)::st):=fun F g a w hw hi hs=>by
  obtain⟨z,hzr,hzc⟩:=zero_spec (P:=P) (w:=w) (T:=T);have h1:=hw.allocCells hi (cs:=zs.map .val) (vs:=zs.toArray) T (holdsL_vals zs) (fun u hu=>by have:=hz.one;rw [List.all_eq_true] at this;exact this u hu);refine goes_value (u:= .pointer (some ⟨w.heap.size,0,none⟩)) ?_ ⟨_,Ghost.to_setLoc hi,h1,AV.ptr_holds.2 ⟨_,_,_,Ghost.setLoc_same,rfl⟩⟩;simp only [execOp,Instr.alloc];rw [Sem.run_bind,Sem.run_bind,hzr];simp only [Result.andThen_ok];simp [newVar,newRow,hzc]
theorem y_box {T:Nat} {x:Operand} {v:AV} {cs:List AV} [hc:Cells v cs] (hx:Ev σ x v):Yields P ⟨d,.box T x,ty,pos,after,gd⟩ σ st i (.ptr i 0) (.cells i cs::st):=fun F g a w hw hi hs=>by
  obtain⟨us,e2,k1,k2⟩:=hc.cells g _ (hx.holds hs (by simp [Op.operands]));have h1:=hw.allocCells hi (cs:=cs) (vs:=us.toArray) T k1 k2;refine goes_value (u:= .pointer (some ⟨w.heap.size,0,none⟩)) ?_ ⟨_,Ghost.to_setLoc hi,h1,AV.ptr_holds.2 ⟨_,_,_,Ghost.setLoc_same,rfl⟩⟩;simp [execOp,Instr.box,newVar,newRow,e2]
inductive PartsE (σ:Fr) (sz:Nat):Nat→List (Nat×Operand)→List (List AV)→Prop
  |nil {k}:PartsE σ sz k [] []
  |cons {k:Nat} {x:Operand} {v:AV} {cs:List AV} {ps qs} (h:Ev σ x v) (hc:Cells v cs) (hl:cs.length=sz) (r:PartsE σ sz (k+1) ps qs):PartsE σ sz k ((k,x)::ps) (cs::qs)
theorem PartsE.len {sz:Nat}: ∀ {k:Nat} {ps:List (Nat×Operand)} {qs:List (List AV)},PartsE σ sz k ps qs→ ∀ x∈qs,x.length=sz
  |_,_,_,.nil,x,hx=>by simp at hx
  |_,_,_,.cons h hc hl r,x,hx=>by
   rcases List.mem_cons.1 hx with rfl|hx
   ·exact hl
   ·exact r.len x hx
theorem fill_elems {g:Ghost} {o:Oper} {a:Act} {sz:Nat} (hs:Slots g σ a (opTmps o)): ∀ {k:Nat} {ps:List (Nat×Operand)} {qs:List (List AV)} (_:PartsE σ sz k ps qs) (hm: ∀ x∈ps,x.2∈o.op.operands)
  {vs:List Value} (hfit:vs.length=(k+qs.length)*sz),
  ∃ us:List Value,Instr.fill (fun x=>some (x*sz,sz)) vs.toArray (ps.map fun x=>(x.1,a.eval x.2))=some (vs.take (k*sz)++us).toArray∧holdsL g qs.flatten us∧ ∀ u∈us,u.oneCell'=true:=by
  intro k ps qs hp;induction hp with
  | @nil k=>intro _ vs hf;exact⟨[],by simp at hf;simp [Instr.fill,←hf],trivial,by simp⟩
  | @cons k x v cs ps qs h hc hl _ ih=>
   intro hm vs hf;obtain⟨us,e,k1,k2⟩:=hc.cells g _ (h.holds hs (hm (k,x) (by simp)));have hlen:=k1.length;have e1:(k+(cs::qs).length)*sz=k*sz+(sz+qs.length*sz):=by simp [Nat.add_mul];omega
   rw [e1] at hf;have hb:k*sz+us.length≤vs.length:=by omega
   rw [List.map_cons,fill_step (us:=us) (off:=k*sz) (by rw [←hlen,hl]) e (by simp;omega)];obtain⟨us',e',k3,k4⟩:=ih (fun y hy=>hm y (by simp [hy])) (vs:=setMany vs (k*sz) us) (by rw [setMany_len hb,hf,Nat.add_mul,Nat.add_mul];omega);refine⟨us++us',?_,k1.append k3,fun u hu=> ?_⟩
   ·have e2:(setMany vs (k*sz) us).take ((k+1)*sz)=vs.take (k*sz)++us:=by
     unfold setMany;have h3:(k+1)*sz=(vs.take (k*sz)++us).length:=by
      rw [List.length_append,List.length_take,Nat.min_eq_left (by omega),Nat.add_mul,Nat.one_mul];omega
     rw [h3];exact List.take_left
    rw [show (setMany vs.toArray.toList (k*sz) us).toArray=(setMany vs (k*sz) us).toArray by simp,e',e2,List.append_assoc]
   ·rcases List.mem_append.1 hu with hu|hu
    ·exact k2 u hu
    ·exact k4 u hu
theorem y_buildSlice {T E sz by_ len:Nat} {parts:Array (Nat×Operand)} {qs:List (List AV)} {zs:List Value} [ht:SliceT P T E sz by_] [hz:ZeroT P E zs] (hp:PartsE σ sz 0 parts.toList qs) (hl:qs.length=len) (hsm:len*sz≤16777216):
  Yields P ⟨d,.buildSlice T len parts,ty,pos,after,gd⟩ σ st i (.full sz qs) st:=fun F g a w hw hi hs=>by
  obtain⟨z,hzr,hzc⟩:=zero_spec (P:=P) (w:=w) (T:=E);have hm: ∀ x∈parts.toList,x.2∈(Op.buildSlice T len parts).operands:=fun x hx=>by simp only [Op.operands,List.mem_toArray];exact List.mem_map.2 ⟨x,hx,rfl⟩
  have key: ∀ (zero:Array Value),∃ us:List Value,Instr.fill (fun x=>some (x*sz,sz)) ((Array.range (len*sz)).map (zero[· % zero.size]!)) (parts.map fun x=>(x.1,a.eval x.2)).toList=some us.toArray∧holdsL g qs.flatten us∧ ∀ u∈us,u.oneCell'=true:=by
   intro zero;obtain⟨us,e,k1,k2⟩:=fill_elems (sz:=sz) hs hp hm (vs:=((Array.range (len*sz)).map (zero[· % zero.size]!)).toList) (by simp [hl]);refine⟨us,?_,k1,k2⟩;simp only [Nat.zero_mul,List.take_zero,List.nil_append,Array.toArray_toList] at e;rw [←e];simp
  have hfl:=flatten_len hp.len;have h16: ¬ (16777216<len*sz):=by omega
  by_cases h0:len*sz=0
  ·obtain⟨us,e,k1,k2⟩:=key #[];have hlu:us.length=len*sz:=by rw [←k1.length,hfl,hl]
   have h1:=hw.allocCom (vs:=us.toArray) E us.length (by simp);refine goes_value (u:= .slice (some ⟨w.heap.size,0,none⟩) len len) (w':=w.alloc (.cells us.toArray E)) ?_ ⟨_,Ghost.to_commit (fun o _ _=>hw.noCom (Nat.le_refl _)),h1,AV.full_holds.2 ⟨some ⟨w.heap.size,0,none⟩,(by rw [hl]),(fun e=>by cases e),⟨hp.len,fun hne=>⟨_,_,rfl,?_⟩⟩⟩⟩
   ·simp only [execOp,Instr.buildSlice,Sem.run_bind,run_underlying ht.und,Result.andThen_ok,run_sizeOf ht.hsize];rw [if_neg (by simpa using h16)];simp only [Sem.run_pure,Result.andThen_ok,if_pos h0,Sem.run_bind];simp only [e];simp [newRow]
   ·exact comRow_commit (Ghost.le_commit (fun o _ _=>hw.noCom (Nat.le_refl _))) (by rw [k1.length];exact Nat.le_refl _) (by rw [k1.length];simpa using k1) (by rw [k1.length];simpa using k2)
  ·obtain⟨us,e,k1,k2⟩:=key z.cells;have hlu:us.length=len*sz:=by rw [←k1.length,hfl,hl]
   have h1:=hw.allocCom (vs:=us.toArray) E us.length (by simp);refine goes_value (u:= .slice (some ⟨w.heap.size,0,none⟩) len len) (w':=w.alloc (.cells us.toArray E)) ?_ ⟨_,Ghost.to_commit (fun o _ _=>hw.noCom (Nat.le_refl _)),h1,AV.full_holds.2 ⟨some ⟨w.heap.size,0,none⟩,(by rw [hl]),(fun e=>by cases e),⟨hp.len,fun hne=>⟨_,_,rfl,?_⟩⟩⟩⟩
   ·simp only [execOp,Instr.buildSlice,Sem.run_bind,run_underlying ht.und,Result.andThen_ok,run_sizeOf ht.hsize];rw [if_neg (by simpa using h16)];simp only [Sem.run_pure,Result.andThen_ok,if_neg h0,Sem.run_bind,hzr];simp only [e];simp [newRow]
   ·exact comRow_commit (Ghost.le_commit (fun o _ _=>hw.noCom (Nat.le_refl _))) (by rw [k1.length];exact Nat.le_refl _) (by rw [k1.length];simpa using k1) (by rw [k1.length];simpa using k2)
end
end Go.Aw
namespace Go.Aw
open Go.RowKit (Below)
section
variable {P:Program} {σ:Fr} {st:List Item} {i:Nat} {d:Option Tmp} {ty:TypeId} {pos:String} {after:Array Edge} {gd:Option (Nat×Bool)} {w:World}
theorem info_of {E sz by_:Nat} {zs:List Value} (h1:sizeB P E=some sz) (h2:(P.info? E).map (·.bytes)=some by_) [hz:ZeroT P E zs]:
  ∃ inf z,P.info? E=some inf∧inf.size=sz∧inf.bytes=by_∧inf.zero=some z∧z.cells=zs.toArray:=by
  unfold sizeB at h1;have h3:=hz.out;cases hi:P.info? E with
  |none=>simp [hi] at h1
  |some inf=>
   cases hz:inf.zero with
   |none=>simp [hi,hz] at h3
   |some z=>
    simp [hi] at h1 h2;simp [hi,hz] at h3;exact⟨inf,z,rfl,h1,h2,hz,by rw [←h3]⟩
theorem run_append_nothing {T E sz by_:Nat} [ht:SliceT P T E sz by_] (tyy:TypeId) (base:Option Addr) (len cap:Nat) (hc:len≤cap) (a:Option Addr) (cap':Nat):
  (Builtin.append_ #[T,T] tyy #[.slice base len cap,.slice a 0 cap']).run P w= .ok (.slice base len cap) w:=by
  have hf:(Builtin.firstCells sz 0 (.slice a 0 cap')).run P w= .ok #[] w:=by
   cases a with
   |none=>simp [Builtin.firstCells]
   |some a=>simp [Builtin.firstCells,loadCells,loadCellsFrom]
  cases base with
  |none=>simp [Builtin.append_,run_underlying ht.und,run_sizeOf ht.hsize,Builtin.lenOf,hc,hf]
  |some b=>simp [Builtin.append_,run_underlying ht.und,run_sizeOf ht.hsize,Builtin.lenOf,hc,hf,storeCells]
theorem run_append_inplace {T E sz by_:Nat} [ht:SliceT P T E sz by_] (tyy:TypeId) (b off len cap:Nat) (vs:Array Value) (E':TypeId) (hb:w.heap[b]?=some (.cells vs E' (0,0))) (a:Addr) (m c:Nat) (news:List Value)
  (hl:news.length=m*sz) (hnews: ∀ j u,news[j]?=some u→w.cell? (a.add j)=some u) (h1: ∀ u∈news,u.oneCell'=true) (hroom:len+m≤cap) (hfit:off+len*sz+news.length≤vs.size):
  (Builtin.append_ #[T,T] tyy #[.slice (some ⟨b,off,none⟩) len cap,.slice (some a) m c]).run P w=
   .ok (.slice (some ⟨b,off,none⟩) (len+m) cap) (w.setRow b (setMany vs.toList (off+len*sz) news).toArray):=by
  have hf:=run_firstCells_some (P:=P) w sz m a m c news hl hnews;have hst:=run_storeCells_at P b (off+len*sz) E' news 0 vs w hb (by simpa using hfit) h1;simp only [Nat.add_zero] at hst;simp [Builtin.append_,run_underlying ht.und,run_sizeOf ht.hsize,Builtin.lenOf,hroom,hf,Addr.add_mk,hst,setMany]
theorem y_append {T E sz by_:Nat} {x y:Operand} {t:Option Nat} {av:AV} {xs ys:List (List AV)} {zs:List Value} [ht:SliceT P T E sz by_] [hz:ZeroT P E zs] [hr:Rd av sz ys] (hzl:zs.length=sz)
  (hx:Ev σ x (.grow sz t xs)) (hy:Ev σ y av) (hb:xs.length+ys.length≤1073741824):
  Yields P ⟨d,.call {callee:= .builtin .append,args:= #[x,y],argTypes:= #[T,T]},ty,pos,after,gd⟩ σ (.tail t::st) i (.grow sz (if ys.isEmpty then t else some i) (xs++ys)) (.tail (if ys.isEmpty then t else some i)::st):=fun F g a w hw hi hs=>by
  have ex:=hx.holds hs (by simp [Op.operands,Call.operands]);obtain⟨ad,cap,ey,hcapy,hlen,hrow⟩:=AV.sl_holds.1 (hr.imp _ _ (hy.holds hs (by simp [Op.operands,Call.operands])));obtain⟨inf,z,hinf,hsz,hby,hzero,hzc⟩:=info_of (P:=P) ht.hsize ht.hbytes (hz:=hz);have hexec: ∀ {r:Result Value},(Builtin.append_ #[T,T] ty #[a.eval x,a.eval y]).run P w=r→(execOp a.eval ⟨d,.call {callee:= .builtin .append,args:= #[x,y],argTypes:= #[T,T]},ty,pos,after,gd⟩).run P w=r.andThen (fun v w'=> .ok (.value v) w'):=by
   intro r h;simp only [execOp,resolve,Sem.run_bind,Sem.run_pure,Result.andThen_ok,invoke,builtin];simp only [List.map_toArray,List.map_cons,List.map_nil,h]
  by_cases hys:ys=[]
  ·subst hys;simp only [List.isEmpty_nil,if_true,List.append_nil];simp only [List.length_nil] at ey;have hform: ∃ base len cap',a.eval x= .slice base len cap'∧len≤cap':=by
    cases t with
    |none=>obtain⟨b,e,_⟩:=AV.full_holds.1 ex;exact⟨_,_,_,e,Nat.le_refl _⟩
    |some j=>obtain⟨_,_,_,_,cap',_,e,h,_⟩:=AV.own_holds.1 ex;exact⟨_,_,_,e,h⟩
   obtain⟨base,len,cap',e,hc⟩:=hform;refine goes_value (u:=a.eval x) (w':=w) ?_ ⟨g,Ghost.to.refl g i,hw,ex⟩;rw [hexec (r:= .ok (a.eval x) w) (by rw [e,ey];exact run_append_nothing ty base len cap' hc ad cap)];rfl
  ·have hne:ys.isEmpty=false:=by cases ys with|nil=>exact absurd rfl hys|cons=>rfl
   simp only [hne,Bool.false_eq_true,if_false];obtain⟨b',o',rfl,hrow'⟩:=hrow hys;obtain⟨news,n1,n2,n3⟩:=hrow'.values;have hln:news.length=ys.length*sz:=by rw [←n1.length,flatten_len hlen]
   have hypos:0<ys.length:=by cases ys with|nil=>exact absurd rfl hys|cons=>simp
   have hnews: ∀ (w1:World),(∀ ad,w1.cell? ad=w.cell? ad)→ ∀ j u,news[j]?=some u→w1.cell? ((⟨b',o',none⟩:Addr).add j)=some u:=fun w1 h1 j u hj=>by
    rw [Addr.add_mk,h1];exact hw.com _ _ _ (n3 j u hj)
   have hsmall:=ht.small;have hbytes:(xs.length+ys.length)*inf.bytes≤140737488355328:=by
    rw [hby]
    calc (xs.length+ys.length)*by_≤1073741824*65536:=Nat.mul_le_mul hb hsmall
     _≤_:=by decide
   have hzsz:z.cells.size=sz:=by rw [hzc];simpa using hzl
   have grown: ∀ (olds:List Value) (old:Nat),holdsL g xs.flatten olds→(∀ u∈olds,u.oneCell'=true)→(∀ x∈xs,x.length=sz)→old<xs.length+ys.length→
    ∀ w',w'=w.drew.alloc (.cells (olds.toArray++news.toArray++Builtin.zeroCells z.cells (grownCap w (xs.length+ys.length) old E - (xs.length+ys.length))) E)→
    ∃ g',g.to i g'∧RelW g' (.tail (some i)::(st++F)) w'∧(AV.own sz i (xs++ys)).holds g' (.slice (some ⟨w.heap.size,0,none⟩) (xs.length+ys.length) (grownCap w (xs.length+ys.length) old E)):=by
    intro olds old ho ho1 hxl hold w' hw';have hge:=grownCap_ge w (xs.length+ys.length) old E;generalize hvs:olds.toArray++news.toArray++Builtin.zeroCells z.cells (grownCap w (xs.length+ys.length) old E - (xs.length+ys.length))=vs at hw';have hlo:olds.length=xs.length*sz:=by rw [←ho.length,flatten_len hxl]
    have hvl:vs.size=grownCap w (xs.length+ys.length) old E*sz:=by
     rw [←hvs];simp only [Array.size_append,List.size_toArray,size_zeroCells,hzsz,hlo,hln,←Nat.add_mul];congr 1;omega
    have hw0:RelW g (st++F) w.drew:=(hw.tailOf).drew;have h1:=hw0.allocTail hi (vs:=vs) E ((xs.length+ys.length)*sz) (by rw [hvl];exact Nat.mul_le_mul_right _ hge);have hcommit:g.le (g.commit w.heap.size 0 ((xs.length+ys.length)*sz) (fun o=>vs[o]?)):=Ghost.le_commit (fun o _ _=>hw.noCom (Nat.le_refl _));have hflat:(xs++ys).flatten.length=(xs.length+ys.length)*sz:=by
     rw [flatten_len (sz:=sz) (fun x hx=>(List.mem_append.1 hx).elim (hxl x) (hlen x)),List.length_append]
    have htake:vs.toList.take ((xs++ys).flatten.length)=olds++news:=by
     rw [hflat,←hvs];simp only [Array.toList_append,List.append_assoc];rw [←List.append_assoc];apply List.take_left';rw [List.length_append,hlo,hln,Nat.add_mul]
    have hcr:=comRow_commit (vs:=vs) (cs:=(xs++ys).flatten) hcommit (by rw [hflat];exact Nat.le_refl _) (by rw [htake,List.flatten_append];exact ho.append n1) (by rw [htake];exact fun u hu=>(List.mem_append.1 hu).elim (ho1 u) (n2 u));have hle2:=Ghost.le_setLoc (g:=g.commit w.heap.size 0 ((xs.length+ys.length)*sz) (fun o=>vs[o]?)) (i:=i) (x:=(w.heap.size,(xs.length+ys.length)*sz,vs.size)) hi;refine⟨_,(Ghost.to_commit (fun o _ _=>hw.noCom (Nat.le_refl _))).trans (Ghost.to_setLoc hi),by rw [hw'];exact h1,?_⟩;rw [AV.own_holds];refine⟨w.heap.size,(xs.length+ys.length)*sz,vs.size,0,_,Ghost.setLoc_same,by rw [List.length_append],by rw [List.length_append];exact hge,fun x hx=>(List.mem_append.1 hx).elim (hxl x) (hlen x),hcr.mono hle2,by rw [List.length_append];omega,by rw [hvl];omega⟩
   cases t with
   |none=>
    obtain⟨b,e,hbn,hxl,hxrow⟩:=AV.full_holds.1 ex;cases b with
    |none=>
     have hxs:=hbn rfl;subst hxs;simp only [List.length_nil] at e;have hr:=run_append_nil (P:=P) w T ty E inf z ht.und hinf hzero ⟨b',o',none⟩ ys.length cap news (by rw [hln,hsz]) (hnews w (fun _=>rfl)) hypos (by simp at hb;omega) (by simp at hbytes;omega);obtain⟨g',h1,h2,h3⟩:=grown [] 0 trivial (by simp) (by simp) (by simp;exact hypos) _ rfl;simp only [List.length_nil,Nat.zero_add,List.nil_append,Array.empty_append] at h2 h3 ⊢;refine goes_value ?_ ⟨g',h1,h2,h3⟩;rw [hexec rfl,e,ey,hr];rfl
    |some ba=>
     have hxr: ∃ olds:List Value,holdsL g xs.flatten olds∧(∀ u∈olds,u.oneCell'=true)∧ ∀ j v,olds[j]?=some v→w.cell? (ba.add j)=some v:=by
      rcases Classical.em (xs=[]) with h|h
      ·subst h;exact⟨[],trivial,by simp,by simp⟩
      ·obtain⟨b,o,e1,hrw⟩:=hxrow h;cases e1;obtain⟨olds,k1,k2,k3⟩:=hrw.values;exact⟨olds,k1,k2,fun j v hj=>by rw [Addr.add_mk];exact hw.com _ _ _ (k3 j v hj)⟩
     obtain⟨olds,k1,k2,k3⟩:=hxr;have hr:=run_append_grow (P:=P) w T ty E inf z ht.und hinf hzero ba xs.length xs.length olds (by rw [←k1.length,flatten_len hxl,hsz]) k3 ⟨b',o',none⟩ ys.length cap news (by rw [hln,hsz]) (hnews w (fun _=>rfl)) (by omega) (by omega) (growslice_fits (by omega) hbytes);obtain⟨g',h1,h2,h3⟩:=grown olds xs.length k1 k2 hxl (by omega) _ rfl;refine goes_value ?_ ⟨g',h1,h2,h3⟩;rw [hexec rfl,e,ey,hr];rfl
   |some j=>
    obtain⟨b,ps,S,off,cap0,hloc,e,hcap0,hxl,hxrow,hpos,hS⟩:=AV.own_holds.1 ex;obtain⟨olds,k1,k2,k3⟩:=hxrow.values;have hlo:olds.length=xs.length*sz:=by rw [←k1.length,flatten_len hxl]
    by_cases hroom:xs.length+ys.length≤cap0
    ·obtain⟨b2,pos2,S2,vs,E',m1,m2,m3,m4,m5,m6⟩:=hw.items _ (List.mem_cons_self ..);rw [hloc] at m1;cases m1;have hfit:off+xs.length*sz+news.length≤vs.size:=by
      have:=Nat.mul_le_mul_right sz hroom;rw [Nat.add_mul] at this;rw [hln,m3];omega
     have hr:=run_append_inplace (P:=P) (T:=T) ty b off xs.length cap0 vs E' m2 ⟨b',o',none⟩ ys.length cap news hln (hnews w (fun _=>rfl)) n2 hroom hfit;have hg:=hw.growTail (j:=i) hi hloc m2 (vs':=(setMany vs.toList ps news).toArray) news.length (by rw [List.size_toArray,setMany_len (by rw [←hpos];simpa using hfit)];simpa using m3) (by omega) (fun o ho=>by
      unfold setMany;simp only [List.getElem?_toArray];rw [List.append_assoc,List.getElem?_append_left (by simp;omega),List.getElem?_take,if_pos ho];simp)
     have hc0: ∀ o,ps≤o→o<ps+news.length→g.com b o=none:=fun o h _=>m5 o h;refine goes_value (u:= .slice (some ⟨b,off,none⟩) (xs.length+ys.length) cap0) ?_ ⟨_,(Ghost.to_commit hc0).trans (Ghost.to_setLoc hi),hg,?_⟩
     ·rw [hexec rfl,e,ey,hr,hpos];rfl
     ·have hle1:=Ghost.le_commit (f:=fun o=>(setMany vs.toList ps news).toArray[o]?) hc0;have hle2:=Ghost.le_setLoc (g:=g.commit b ps (ps+news.length) (fun o=>(setMany vs.toList ps news).toArray[o]?)) (i:=i) (x:=(b,ps+news.length,S)) hi;show (AV.own sz i (xs++ys)).holds _ _;rw [AV.own_holds];refine⟨b,ps+news.length,S,off,cap0,Ghost.setLoc_same,by rw [List.length_append],by rw [List.length_append];exact hroom,fun x hx=>(List.mem_append.1 hx).elim (hxl x) (hlen x),?_,by rw [List.length_append,hln,←hpos,Nat.add_mul];omega,hS⟩
      ·rw [List.flatten_append];refine comRow.mono hle2 (comRow.append (hxrow.mono hle1) ?_);rw [flatten_len hxl,hpos];refine comRow.of (n1.mono hle1) n2 (fun j v hj=> ?_);have hjl:j<news.length:=by
        rcases Nat.lt_or_ge j news.length with h|h
        ·exact h
        ·simp [List.getElem?_eq_none h] at hj
       show (if b=b∧ps≤ps+j∧ps+j<ps+news.length then _ else _)=_;rw [if_pos ⟨rfl,by omega,by omega⟩];have hpv:ps≤vs.toList.length:=by simp;omega
       unfold setMany;simp only [List.getElem?_toArray];rw [List.append_assoc,List.getElem?_append_right (by rw [List.length_take];omega),List.length_take,Nat.min_eq_left hpv,Nat.add_sub_cancel_left,List.getElem?_append_left hjl];exact hj
    ·have hr:=run_append_grow (P:=P) w T ty E inf z ht.und hinf hzero ⟨b,off,none⟩ xs.length cap0 olds (by rw [hlo,hsz]) (fun j v hj=>by rw [Addr.add_mk];exact hw.com _ _ _ (k3 j v hj)) ⟨b',o',none⟩ ys.length cap news (by rw [hln,hsz]) (hnews w (fun _=>rfl)) (by omega) (by omega) (growslice_fits (by omega) hbytes);obtain⟨g',h1,h2,h3⟩:=grown olds cap0 k1 k2 hxl (by omega) _ rfl;refine goes_value ?_ ⟨g',h1,h2,h3⟩;rw [hexec rfl,e,ey,hr];rfl
end
end Go.Aw
namespace Go.Aw
open Go.RowKit (Below)
section
variable {P:Program} {σ:Fr} {st:List Item} {i:Nat} {d:Option Tmp} {ty:TypeId} {pos:String} {after:Array Edge} {gd:Option (Nat×Bool)} {w:World}
theorem run_callFunc {f:FuncId} (h:callable P f=true) (args:Array Value):(callFunc f args).run P w= .ok (.enter f args) w:=by
  unfold callable at h;cases hf:P.funcs[f]? with
  |none=>simp [hf] at h
  |some fn=>
   simp [hf] at h;obtain⟨h1,h2⟩:=h;have h3:(fn.name== "runtime.NumGoroutine")=false:=by simpa using h2
   cases hb:fn.body with
   |none=>simp [hb] at h1
   |some c=>simp [callFunc,hf,h2,hb]
class Fun (v:AV) (f:outParam FuncId) (caps:outParam (List AV)):Prop where
  imp:v.Imp (.clo f caps)
instance {f:Nat} {caps:List AV}:Fun (.clo f caps) f caps:=⟨AV.Imp.refl _⟩
instance {f:Nat}:Fun (.val (.func (.func f) #[] #[])) f []:=⟨fun g u h=>by rw [AV.val_holds] at h;subst h;exact AV.clo_holds.2 ⟨[],rfl,trivial⟩⟩
theorem goes_call {o:Oper} {a:Act} {w w':World} {f:FuncId} {args:Array Value} {R:Value→World→Prop} (h:(execOp a.eval o).run P w= .ok (.enter f args) w') (hr:Calls P f args w' fun e w''=> ∃ u,e= .returned u∧R u w''):Goes P o a w R:=by
  unfold Goes;rw [h];exact hr
theorem run_call {c:Operand} {args:Array Operand} {ts:Array TypeId} {a:Act} {f:FuncId} {us:List Value} (hc:callable P f=true) (e:a.eval c= .func (.func f) #[] us.toArray):
  (execOp a.eval ⟨d,.call {callee:= .value c,args:=args,argTypes:=ts},ty,pos,after,gd⟩).run P w= .ok (.enter f (args.toList.map a.eval++us).toArray) w:=by
  simp only [execOp,resolve,Deferred.ofValue,e,Sem.run_bind,Sem.run_pure,Result.andThen_ok,invoke];rw [run_callFunc hc];congr 2
  apply Array.ext';simp
theorem y_call {c:Operand} {args:Array Operand} {ts:Array TypeId} {fv:AV} {f:FuncId} {caps vs:List AV} {v:AV} {st':List Item} [hf:Fun fv f caps] (hc:Ev σ c fv) (hargs:EvL σ args.toList vs)
  (h:ACalls P f (vs++caps) st (fun v' st''=>v'=v∧st''=st')):Yields P ⟨d,.call {callee:= .value c,args:=args,argTypes:=ts},ty,pos,after,gd⟩ σ st i v st':=fun F g a w hw hi hs=>by
  obtain⟨us,e,hus⟩:=AV.clo_holds.1 (hf.imp _ _ (hc.holds hs (by simp [Op.operands,Call.operands])));have hv:=hargs.holds hs (fun x hx=>by simp [Op.operands,Call.operands];right;simpa using hx);refine goes_call (run_call h.1 e) ((h.2 F g w _ hw (hv.append hus)).mono fun e' w' ⟨u,v',st'',g',he,hx,hw',hv',hq,hst⟩=> ?_);subst hq hst;exact⟨u,he,g',hx.to i,hw',hv'⟩
theorem aops_call {n:Nat} {ops:Array Oper} {rest:List Oper} {K:Fr→List Item→Prop} {dd:Nat} {c:Operand} {args:Array Operand} {ts:Array TypeId} {fv:AV} {f:FuncId} {caps vs:List AV} [hf:Fun fv f caps] (hd:dd<n)
  (hc:Ev σ c fv) (hargs:EvL σ args.toList vs) (h:ACalls P f (vs++caps) st (fun v st'=>AOps P n ops rest ((dd,v)::σ) st' K)):AOps P n ops (⟨some dd,.call {callee:= .value c,args:=args,argTypes:=ts},ty,pos,after,none⟩::rest) σ st K:=by
  intro F g a w hfr hw;have hs:Slots g σ a (opTmps ⟨some dd,.call {callee:= .value c,args:=args,argTypes:=ts},ty,pos,after,none⟩):=hfr.slots _;obtain⟨us,e,hus⟩:=AV.clo_holds.1 (hf.imp _ _ (hc.holds hs (by simp [Op.operands,Call.operands])));have hv:=hargs.holds hs (fun x hx=>by simp [Op.operands,Call.operands];right;simpa using hx);unfold wpList;rw [if_pos (by simp [Region.wanted])];left;have hg:Goes P ⟨some dd,.call {callee:= .value c,args:=args,argTypes:=ts},ty,pos,after,none⟩ a w (fun u w'=> ∃ (v:AV) (st':List Item) (g':Ghost),g.ext g'∧RelW g' (st'++F) w'∧v.holds g' u∧AOps P n ops rest ((dd,v)::σ) st' K):=
   goes_call (run_call h.1 e) ((h.2 F g w _ hw (hv.append hus)).mono fun e' w' ⟨u,v',st'',g',he,r⟩=>⟨u,he,v',st'',g',r⟩)
  exact hg.wp fun u w' ⟨v,st',g',hx,hw',hv',hk⟩=>wpList_ext hx (hk F g' _ w' ((hfr.mono hx.le).put hd hv') hw')
theorem ACalls.frame {f:FuncId} {args:List AV} {st1 st2:List Item} {Q Q':AV→List Item→Prop} (h:ACalls P f args st1 Q) (hp:st.Perm (st1++st2)) (hq: ∀ v st',Q v st'→Q' v (st'++st2)):ACalls P f args st Q':=
  ⟨h.1,fun F g w vs hw hv=>(h.2 (st2++F) g w vs (by rw [←List.append_assoc];exact hw.perm (hp.append_right F)) hv).mono fun e w' ⟨u,v,st',g',a,b,c,d',q⟩=>⟨u,v,st'++st2,g',a,b,by rw [List.append_assoc];exact c,d',hq _ _ q⟩⟩
theorem ACalls.pure {f:FuncId} {args:List AV} {v:AV} (h:ACalls P f args [] (fun v' st'=>v'=v∧st'=[])):ACalls P f args st (fun v' st'=>v'=v∧st'=st):=
  h.frame (st2:=st) (by simp) fun v' st' ⟨a,b⟩=>⟨a,by rw [b];rfl⟩
theorem ACalls.here {f:FuncId} {args:List AV} {v:AV} {Q:AV→List Item→Prop} (h:ACalls P f args [] (fun v' st'=>v'=v∧st'=[])) (hq:Q v st):ACalls P f args st Q:=
  h.pure.mono fun v' st' ⟨a,b⟩=>by rw [a,b];exact hq
theorem run_equal_bool {T:TypeId} {a b:Bool} (hT:P.underlying T=some .bool):(Op.equal T (.bool a) (.bool b)).run P w= .ok (a==b) w:=by
  unfold Op.equal Op.maxDepth;exact run_equalIn_bool' w 9999 T a b hT
theorem y_eqBool {T T':TypeId} {x y:Operand} {a b:Bool} (hT:P.underlying T=some .bool) (hx:Ev σ x (.bool a)) (hy:Ev σ y (.bool b)):Yields P ⟨d,.binOp .eql T x y T',ty,pos,after,gd⟩ σ st i (.bool (a==b)) st:=fun F g ac w hw hi hs=>
  goes_value (u:= .bool (a==b)) (by
   simp only [execOp,AV.val_holds.1 (hx.holds hs (by simp [Op.operands])),AV.val_holds.1 (hy.holds hs (by simp [Op.operands])),eqGuard,binOp];simp [run_equal_bool hT]) ⟨g,Ghost.to.refl g i,hw,AV.val_self _⟩
theorem y_neBool {T T':TypeId} {x y:Operand} {a b:Bool} (hT:P.underlying T=some .bool) (hx:Ev σ x (.bool a)) (hy:Ev σ y (.bool b)):Yields P ⟨d,.binOp .neq T x y T',ty,pos,after,gd⟩ σ st i (.bool (!(a==b))) st:=fun F g ac w hw hi hs=>
  goes_value (u:= .bool (!(a==b))) (by
   simp only [execOp,AV.val_holds.1 (hx.holds hs (by simp [Op.operands])),AV.val_holds.1 (hy.holds hs (by simp [Op.operands])),eqGuard,binOp];simp [run_equal_bool hT]) ⟨g,Ghost.to.refl g i,hw,AV.val_self _⟩
inductive EqL (P:Program):List TypeId→List AV→List AV→Bool→Prop
  |nil:EqL P [] [] [] true
  |int {T k k' ts a b cs ds r} (h:P.underlying T=some (.int k')) (q:EqL P ts cs ds r):EqL P (T::ts) (.val (.int k a)::cs) (.val (.int k b)::ds) (decide (a=b) && r)
  |bool {T ts a b cs ds r} (h:P.underlying T=some .bool) (q:EqL P ts cs ds r):EqL P (T::ts) (.val (.bool a)::cs) (.val (.bool b)::ds) ((a==b) && r)
def flatB:Nat→List Field→Option (List TypeId)
  |_,[]=>some []
  |o,f::fs=>if f.offset=o∧f.name≠ "_" then (flatB (o+1) fs).map (f.type:: ·) else none
class FlatT (P:Program) (T:TypeId) (ts:outParam (List TypeId)):Prop where
  und:P.underlying T=some (.struct (P.fieldsOf T))
  out:flatB 0 (P.fieldsOf T).toList=some ts
  stood:P.stoodInHeld T=false
  guard:P.eqGuardType P.depth T=false
  scalar:ts.all (fun t=>isAggB P t==some false)=true
theorem run_eqFields {g:Ghost}: ∀ {fs:List Field} {o:Nat} {ts:List TypeId} {cs ds:List AV} {r:Bool} (he:EqL P ts cs ds r) (hf:flatB o fs=some ts) (hsc:ts.all (fun t=>isAggB P t==some false)=true) {xs ys:Array Value}
  (hx: ∀ j v,cs[j]?=some v→ ∃ u,xs[o+j]?=some u∧v.holds g u) (hy: ∀ j v,ds[j]?=some v→ ∃ u,ys[o+j]?=some u∧v.holds g u),(Op.eqFields 9999 xs ys fs).run P w= .ok r w
  | [],o,ts,cs,ds,r,he,hf,hsc,xs,ys,hx,hy=>by
   simp only [flatB,Option.some.injEq] at hf;subst hf;cases he;simp [Op.eqFields]
  |f::fs,o,ts,cs,ds,r,he,hf,hsc,xs,ys,hx,hy=>by
   simp only [flatB] at hf;split at hf
   ·rename_i hc;obtain⟨ho,hn⟩:=hc;cases hr:flatB (o+1) fs with
    |none=>simp [hr] at hf
    |some ts'=>
     simp [hr] at hf;subst hf;have hsc1:isAggB P f.type=some false:=by simp at hsc;exact hsc.1
     have hsc2:ts'.all (fun t=>isAggB P t==some false)=true:=by simp at hsc ⊢;exact hsc.2
     have part_ok: ∀ {zs:Array Value} {u:Value},zs[o]?=some u→(part f.type zs f.offset).run P w= .ok u w:=fun {zs u} h=>by
      unfold part;rw [Sem.run_bind,run_isAgg hsc1];simp [ho,h]
     cases he with
     |int h q=>
      obtain⟨u,hu,hv⟩:=hx 0 _ rfl;obtain⟨u',hu',hv'⟩:=hy 0 _ rfl;rw [AV.val_holds] at hv hv';subst hv hv';have ih:=run_eqFields (g:=g) q hr hsc2 (xs:=xs) (ys:=ys) (fun j v hj=>by have:=hx (j+1) v (by simpa using hj);rwa [show o+(j+1)=o+1+j by omega] at this) (fun j v hj=>by have:=hy (j+1) v (by simpa using hj);rwa [show o+(j+1)=o+1+j by omega] at this);simp only [Op.eqFields,if_pos hn];rw [Sem.run_bind,part_ok (by simpa using hu)];simp only [Result.andThen_ok];rw [Sem.run_bind,part_ok (by simpa using hu')];simp only [Result.andThen_ok];rw [Sem.run_bind,run_equalIn_int w 9998 _ _ _ _ _ h];simp only [Result.andThen_ok];simp only [ih,Sem.run_ite,Sem.run_pure];split<;>simp_all
     |bool h q=>
      obtain⟨u,hu,hv⟩:=hx 0 _ rfl;obtain⟨u',hu',hv'⟩:=hy 0 _ rfl;rw [AV.val_holds] at hv hv';subst hv hv';have ih:=run_eqFields (g:=g) q hr hsc2 (xs:=xs) (ys:=ys) (fun j v hj=>by have:=hx (j+1) v (by simpa using hj);rwa [show o+(j+1)=o+1+j by omega] at this) (fun j v hj=>by have:=hy (j+1) v (by simpa using hj);rwa [show o+(j+1)=o+1+j by omega] at this);simp only [Op.eqFields,if_pos hn];rw [Sem.run_bind,part_ok (by simpa using hu)];simp only [Result.andThen_ok];rw [Sem.run_bind,part_ok (by simpa using hu')];simp only [Result.andThen_ok];rw [Sem.run_bind,run_equalIn_bool' w 9998 _ _ _ h];simp only [Result.andThen_ok];simp only [ih,Sem.run_ite,Sem.run_pure];split<;>simp_all
   ·cases hf
theorem run_eqStruct {g:Ghost} {T:TypeId} {ts:List TypeId} [ht:FlatT P T ts] {cs ds:List AV} {xs ys:List Value} {r:Bool} (he:EqL P ts cs ds r) (hx:holdsL g cs xs) (hy:holdsL g ds ys):(Op.equalIn 10000 T (.agg xs.toArray) (.agg ys.toArray)).run P w= .ok r w:=by
  have h1:=run_equalIn_struct (P:=P) w 9999 T xs.toArray ys.toArray ht.und ht.stood;rw [h1];exact run_eqFields he ht.out ht.scalar (fun j v hj=>by obtain⟨u,p,q⟩:=hx.get j v hj;exact⟨u,by simpa using p,q⟩) (fun j v hj=>by obtain⟨u,p,q⟩:=hy.get j v hj;exact⟨u,by simpa using p,q⟩)
theorem y_eqStruct {T T':TypeId} {ts:List TypeId} {x y:Operand} {cs ds:List AV} {r:Bool} [ht:FlatT P T ts] (hx:Ev σ x (.agg cs)) (hy:Ev σ y (.agg ds)) (he:EqL P ts cs ds r):Yields P ⟨d,.binOp .eql T x y T',ty,pos,after,gd⟩ σ st i (.bool r) st:=fun F g ac w hw hi hs=>by
  obtain⟨xs,e1,h1,_⟩:=AV.agg_holds.1 (hx.holds hs (by simp [Op.operands]));obtain⟨ys,e2,h2,_⟩:=AV.agg_holds.1 (hy.holds hs (by simp [Op.operands]));exact goes_value (u:= .bool r) (by
   simp only [execOp,e1,e2];rw [Sem.run_bind,Sem.run_bind,run_eqGuard_agg (hm:=ht.guard)];simp only [Result.andThen_ok];rw [run_eql_struct,run_eqStruct he h1 h2];rfl) ⟨g,Ghost.to.refl g i,hw,AV.val_self _⟩
theorem y_neStruct {T T':TypeId} {ts:List TypeId} {x y:Operand} {cs ds:List AV} {r:Bool} [ht:FlatT P T ts] (hx:Ev σ x (.agg cs)) (hy:Ev σ y (.agg ds)) (he:EqL P ts cs ds r):Yields P ⟨d,.binOp .neq T x y T',ty,pos,after,gd⟩ σ st i (.bool (!r)) st:=fun F g ac w hw hi hs=>by
  obtain⟨xs,e1,h1,_⟩:=AV.agg_holds.1 (hx.holds hs (by simp [Op.operands]));obtain⟨ys,e2,h2,_⟩:=AV.agg_holds.1 (hy.holds hs (by simp [Op.operands]));exact goes_value (u:= .bool (!r)) (by
   simp only [execOp,e1,e2];rw [Sem.run_bind,Sem.run_bind,run_eqGuard_agg (hm:=ht.guard)];simp only [Result.andThen_ok];rw [run_neq_struct,run_eqStruct he h1 h2];rfl) ⟨g,Ghost.to.refl g i,hw,AV.val_self _⟩
theorem y_convert {T T':TypeId} {x:Operand} {k k':IntKind} {a:Int} (hT:(P.underlying T).isSome=true) (hT':P.underlying T'=some (.int k')) (hx:Ev σ x (.val (.int k a))):Yields P ⟨d,.convert T T' x,ty,pos,after,gd⟩ σ st i (.val (.int k' (k'.wrap a))) st:=fun F g ac w hw hi hs=>by
  cases hu:P.underlying T with
  |none=>simp [hu] at hT
  |some dd=>
   exact goes_value (u:= .int k' (k'.wrap a)) (by
    simp [execOp,AV.val_holds.1 (hx.holds hs (by simp [Op.operands])),convert,run_underlying hu,run_underlying hT',Conv.intToInt]) ⟨g,Ghost.to.refl g i,hw,AV.val_self _⟩
theorem y_min {T T':TypeId} {x y:Operand} {k:IntKind} {a b:Int} (hx:Ev σ x (.val (.int k a))) (hy:Ev σ y (.val (.int k b))):Yields P ⟨d,.call {callee:= .builtin .min,args:= #[x,y],argTypes:= #[T,T']},ty,pos,after,gd⟩ σ st i (.val (.int k (min a b))) st:=fun F g ac w hw hi hs=>
  goes_value (u:= .int k (min a b)) (by
   have:min a b=if b<a then b else a:=by omega
   simp [execOp,resolve,invoke,builtin,Builtin.min_,Builtin.min2,AV.val_holds.1 (hx.holds hs (by simp [Op.operands,Call.operands])),AV.val_holds.1 (hy.holds hs (by simp [Op.operands,Call.operands])),this]) ⟨g,Ghost.to.refl g i,hw,AV.val_self _⟩
theorem y_max {T T':TypeId} {x y:Operand} {k:IntKind} {a b:Int} (hx:Ev σ x (.val (.int k a))) (hy:Ev σ y (.val (.int k b))):Yields P ⟨d,.call {callee:= .builtin .max,args:= #[x,y],argTypes:= #[T,T']},ty,pos,after,gd⟩ σ st i (.val (.int k (max a b))) st:=fun F g ac w hw hi hs=>
  goes_value (u:= .int k (max a b)) (by
   have:max a b=if a<b then b else a:=by omega
   simp [execOp,resolve,invoke,builtin,Builtin.max_,Builtin.max2,AV.val_holds.1 (hx.holds hs (by simp [Op.operands,Call.operands])),AV.val_holds.1 (hy.holds hs (by simp [Op.operands,Call.operands])),this]) ⟨g,Ghost.to.refl g i,hw,AV.val_self _⟩
theorem rep_zero (zs:List Value) (n:Nat):((Array.range (n*zs.length)).map (zs.toArray[· % zs.toArray.size]!)).toList=(List.replicate n zs).flatten:=by
  apply List.ext_getElem
  ·simp [List.length_flatten]
  ·intro j h1 h2;simp only [Array.toList_map,Array.toList_range,List.length_map,List.length_range] at h1;have hpos:0<zs.length:=by
    rcases Nat.eq_zero_or_pos zs.length with h|h
    ·rw [h] at h1;simp at h1
    ·exact h
   have hlt:=Nat.mod_lt j hpos;simp only [Array.getElem_toList,Array.getElem_map,Array.getElem_range,List.size_toArray];rw [getElem!_pos zs.toArray (j % zs.length) (by simpa using hlt)];have h3:=flatten_get (xs:=List.replicate n zs) (sz:=zs.length) (fun x hx=>by rw [List.eq_of_mem_replicate hx]) (j / zs.length) zs (by
    rw [List.getElem?_replicate,if_pos (Nat.div_lt_of_lt_mul (by rw [Nat.mul_comm];exact h1))])
   have h4:((List.replicate n zs).flatten)[j]?=zs[j % zs.length]?:=by
    have h5:=congrArg (fun l=>l[j % zs.length]?) h3;simp only [List.getElem?_take,if_pos hlt,List.getElem?_drop] at h5;rw [←h5];congr 1;rw [Nat.mul_comm];exact (Nat.div_add_mod j zs.length).symm
   rw [List.getElem?_eq_getElem h2,List.getElem?_eq_getElem hlt] at h4;simpa using (Option.some.inj h4).symm
theorem y_makeArr {T E sz by_:Nat} {x y:Operand} {n:Nat} {q:Int} {k k':IntKind} {zs:List Value} [ht:SliceT P T E sz by_] [hz:ZeroT P E zs] (hzl:zs.length=sz) (hx:Ev σ x (.val (.int k q))) (hy:Ev σ y (.val (.int k' q))) (hq:q=(n:Int)) (hn:n≤1073741824):
  Yields P ⟨d,.makeSlice T x y,ty,pos,after,gd⟩ σ st i (.arr i 0 n) (.cells i ((List.replicate n (zs.map AV.val)).flatten)::st):=fun F g a w hw hi hs=>by
  subst hq;obtain⟨inf,z,hinf,hsz,hby,hzero,hzc⟩:=info_of (P:=P) ht.hsize ht.hbytes (hz:=hz);have hbb:(inf.bytes:Int)*(n:Int)≤281474976710656:=by
   have h1:inf.bytes*n≤65536*1073741824:=Nat.mul_le_mul (by rw [hby];exact ht.small) hn;have h2:((inf.bytes*n:Nat):Int)≤((65536*1073741824:Nat):Int):=Int.ofNat_le.2 h1;rw [Int.natCast_mul] at h2;exact Int.le_trans h2 (by decide)
  have hr:=run_make (P:=P) w T E inf z ht.und hinf hzero k k' n n (by omega) (Int.le_refl _) hbb (by omega);simp only [Int.toNat_natCast] at hr;have hm:(madeCells z.cells (n*inf.size)).toList=(List.replicate n zs).flatten:=by
   rw [hsz,←hzl,hzc];exact rep_zero zs n
  have hv:holdsL g ((List.replicate n (zs.map AV.val)).flatten) (madeCells z.cells (n*inf.size)).toList:=by
   rw [hm];clear hr hbb hm hn hx hy;induction n with
   |zero=>exact trivial
   |succ n ih=>simp only [List.replicate_succ,List.flatten_cons];exact (holdsL_vals zs).append ih
  have h1:=hw.allocCells hi (cs:=(List.replicate n (zs.map AV.val)).flatten) (vs:=madeCells z.cells (n*inf.size)) E hv (fun u hu=>by
   rw [hm] at hu;obtain⟨l,hl,hu⟩:=List.mem_flatten.1 hu;rw [List.eq_of_mem_replicate hl] at hu;have:=hz.one;rw [List.all_eq_true] at this;exact this u hu)
  refine goes_value (u:= .slice (some ⟨w.heap.size,0,none⟩) n n) ?_ ⟨_,Ghost.to_setLoc hi,h1,?_⟩
  ·simp only [execOp,AV.val_holds.1 (hx.holds hs (by simp [Op.operands])),AV.val_holds.1 (hy.holds hs (by simp [Op.operands]))];rw [Sem.run_bind,hr];rfl
  ·exact AV.arr_holds.2 ⟨w.heap.size,0,0,n,Ghost.setLoc_same,rfl,Nat.le_refl _⟩
end
end Go.Aw
namespace Go.Aw
open Go.RowKit (Below)
theorem blt_lt {a b:Nat} (h:Nat.blt a b=true):a<b:=by rw [Nat.blt_eq] at h;exact h
section ops
variable {P:Program} {n:Nat} {ops:Array Oper} {rest:List Oper} {σ:Fr} {st:List Item} {K:Fr→List Item→Prop} {op:Op} {ty:TypeId} {pos:String} {after:Array Edge}
theorem st_p {d:Nat} {v:AV} (hy: ∀ i,Yields P ⟨some d,op,ty,pos,after,none⟩ σ st i v st) (hd:Nat.blt d n=true) (h:AOps P n ops rest ((d,v)::σ) st K):AOps P n ops (⟨some d,op,ty,pos,after,none⟩::rest) σ st K:=
  aops_put (blt_lt hd) (fun i=>(hy i).plain rfl) h
theorem st_g {d:Nat} {v:AV} {j:Nat} {pol:Bool} {oj:Oper} {t:Tmp} {gv:AV} {c:Prop} (hj:ops[j]?=some oj) (hdj:oj.dst=some t) (hl:look σ t=some gv) (hs:Says gv pol c)
  (hy:c→ ∀ i,Yields P ⟨some d,op,ty,pos,after,some (j,pol)⟩ σ st i v st) (hd:Nat.blt d n=true) (h:AOps P n ops rest ((d,.opt c v)::σ) st K):AOps P n ops (⟨some d,op,ty,pos,after,some (j,pol)⟩::rest) σ st K:=
  aops_put (blt_lt hd) (fun i=>Yields.guarded rfl hj hdj hl hs (fun hc=>hy hc i)) h
theorem st_s {v:AV} {st':List Item} (hy: ∀ i,Yields P ⟨none,op,ty,pos,after,none⟩ σ st i v st') (h:AOps P n ops rest σ st' K):AOps P n ops (⟨none,op,ty,pos,after,none⟩::rest) σ st K:=
  aops_none (fun i=>(hy i).plain rfl) h
theorem st_n {d:Nat} {v:Nat→AV} {st':Nat→List Item} (hy: ∀ i,Yields P ⟨some d,op,ty,pos,after,none⟩ σ st i (v i) (st' i)) (hd:Nat.blt d n=true) (h: ∀ i,AOps P n ops rest ((d,v i)::σ) (st' i) K):AOps P n ops (⟨some d,op,ty,pos,after,none⟩::rest) σ st K:=
  aops_new (blt_lt hd) (fun i=>(hy i).plain rfl) h
theorem st_append {d:Nat} {T E sz by_:Nat} {x y:Operand} {t:Option Nat} {av:AV} {xs ys:List (List AV)} {zs:List Value} [ht:SliceT P T E sz by_] [hz:ZeroT P E zs] [hr:Rd av sz ys] (hzl:zs.length=sz)
  (hx:Ev σ x (.grow sz t xs)) (hy:Ev σ y av) (hb:xs.length+ys.length≤1073741824) (hd:Nat.blt d n=true) (h: ∀ t',AOps P n ops rest ((d,.grow sz t' (xs++ys))::σ) (.tail t'::st) K):
  AOps P n ops (⟨some d,.call {callee:= .builtin .append,args:= #[x,y],argTypes:= #[T,T]},ty,pos,after,none⟩::rest) σ (.tail t::st) K:=
  st_n (fun i=>y_append hzl hx hy hb) hd fun i=>h _
theorem aops_weak {σ':Fr} {st':List Item} (hw:Weak n σ st σ' st') (h:AOps P n ops rest σ' st' K):AOps P n ops rest σ st K:=fun F g a w hf hr=>by
  obtain⟨g',x,y,z⟩:=hw F g a w hf hr;exact wpList_ext x (h F g' a w y z)
end ops
theorem Weak.tail0 {n:Nat} {σ:Fr} {st:List Item}:Weak n σ st σ (.tail none::st):=fun F g a w hf hw=>
  ⟨g,Ghost.ext.refl g,hf,RelW.cons hw trivial (fun b hb=>by simp [Item.blk,Item.id?] at hb)⟩
theorem Weak.perm {n:Nat} {σ:Fr} {st st':List Item} (h:st.Perm st'):Weak n σ st σ st':=fun F g a w hf hw=>⟨g,Ghost.ext.refl g,hf,hw.perm (h.append_right F)⟩
theorem Weak.sub {n:Nat} {σ:Fr} {st st':List Item} (h:st'.Sublist st):Weak n σ st σ st':=fun F g a w hf hw=>⟨g,Ghost.ext.refl g,hf,hw.sub (h.append_right F)⟩
theorem VShift.sub {v v':AV} {st st':List Item} (h:v.Imp v') (k:st'.Sublist st):VShift v st v' st':=fun F g u w hw hv=>⟨g,Ghost.ext.refl g,hw.sub (k.append_right F),h _ _ hv⟩
theorem VShift.trans {v v' v'':AV} {st st' st'':List Item} (h:VShift v st v' st') (k:VShift v' st' v'' st''):VShift v st v'' st'':=fun F g u w hw hv=>by
  obtain⟨g',x,y,z⟩:=h F g u w hw hv;obtain⟨g'',x',y',z'⟩:=k F g' u w y z;exact⟨g'',x.trans x',y',z'⟩
inductive ImpL:List AV→List AV→Prop
  |nil:ImpL [] []
  |cons {v v' vs vs'} (h:v.Imp v') (r:ImpL vs vs'):ImpL (v::vs) (v'::vs')
theorem ImpL.holdsL {g:Ghost} {vs vs':List AV} (h:ImpL vs vs'): ∀ {us:List Value},Aw.holdsL g vs us→Aw.holdsL g vs' us:=by
  induction h with
  |nil=>exact fun h=>h
  |cons h _ ih=>intro us hu;cases us with
   |nil=>exact hu.elim
   |cons u us=>exact⟨h _ _ hu.1,ih hu.2⟩
theorem AV.Imp.tup {vs vs':List AV} (h:ImpL vs vs'):(AV.tup vs).Imp (.tup vs'):=fun g u hu=>by
  obtain⟨us,e,hh⟩:=AV.tup_holds.1 hu;exact AV.tup_holds.2 ⟨us,e,h.holdsL hh⟩
theorem AV.Imp.agg {vs vs':List AV} (h:ImpL vs vs'):(AV.agg vs).Imp (.agg vs'):=fun g u hu=>by
  obtain⟨us,e,hh,h1⟩:=AV.agg_holds.1 hu;exact AV.agg_holds.2 ⟨us,e,h.holdsL hh,h1⟩
theorem AV.Imp.grow_sl {sz:Nat} {t:Option Nat} {xs:List (List AV)}:(AV.grow sz t xs).Imp (.sl sz xs):=(inferInstance:Rd (.grow sz t xs) sz xs).imp
theorem AV.Imp.full_sl {sz:Nat} {xs:List (List AV)}:(AV.full sz xs).Imp (.sl sz xs):=(inferInstance:Rd (.full sz xs) sz xs).imp
theorem AV.Imp.own_sl {sz i:Nat} {xs:List (List AV)}:(AV.own sz i xs).Imp (.sl sz xs):=(inferInstance:Rd (.own sz i xs) sz xs).imp
theorem AV.Imp.full_grow {sz:Nat} {xs:List (List AV)}:(AV.full sz xs).Imp (.grow sz none xs):=AV.Imp.refl _
theorem AV.Imp.own_grow {sz i:Nat} {xs:List (List AV)}:(AV.own sz i xs).Imp (.grow sz (some i) xs):=AV.Imp.refl _
theorem AV.Imp.nil_grow {sz:Nat}:(AV.val (.slice none 0 0)).Imp (.grow sz none []):=AV.nil_full
section code
variable {P:Program} {n:Nat} {σ:Fr} {st:List Item} {Q:Exit→Fr→List Item→Prop}
theorem retG {rs:List ResultVar} {vs:List AV} {v:AV} {st':List Item} {Q':AV→List Item→Prop} {e:Exit} (he:e= .normal∨e= .ret) (h:ResAll P σ st rs vs) (hv:VShift (shutRes vs) st v st') (hq:Q' v st'):RetA P rs Q' e σ st:=
  ⟨he,vs,h,v,st',hv,hq⟩
end code
end Go.Aw
namespace Go.Aw
open Go.RowKit (Below)
inductive Kd where
  |free|read|write|new|peek
  deriving DecidableEq
def putF (σ:Fr) (d:Option Tmp) (v:AV):Fr:=match d with|some d=>(d,v)::σ|none=>σ
def dstOk (n:Nat) (o:Oper):Prop:= ∀ d,o.dst=some d→d<n
def Drv (P:Program) (n:Nat) (ops:Array Oper) (K:Nat) (A:List Item) (Q:Fr→List Item→Prop):Nat→List Oper→List Kd→Fr→List Item→Prop
  |_,[],[],σ,st=>Q σ st
  |i,o::rest,.free::ks,σ,st=> ∃ v,dstOk n o∧YieldsG P ops o σ A (K+i) v A∧Drv P n ops K A Q (i+1) rest ks (putF σ o.dst v) st
  |i,o::rest,.read::ks,σ,st=> ∃ v,dstOk n o∧YieldsG P ops o σ st (K+i) v st∧Drv P n ops K A Q (i+1) rest ks (putF σ o.dst v) st
  |i,o::rest,.write::ks,σ,st=> ∃ v st',dstOk n o∧YieldsG P ops o σ st (K+i) v st'∧Drv P n ops K A Q (i+1) rest ks (putF σ o.dst v) st'
  |i,o::rest,.new::ks,σ,st=> ∃ v its,dstOk n o∧(∀ st0,YieldsG P ops o σ st0 (K+i) v (its++st0))∧Drv P n ops K A Q (i+1) rest ks (putF σ o.dst v) (its++st)
  |i,o::rest,.peek::ks,σ,st=> ∃ v N c,st=N++[c]∧dstOk n o∧YieldsG P ops o σ [c] (K+i) v [c]∧Drv P n ops K A Q (i+1) rest ks (putF σ o.dst v) st
  |_,_,_,_,_=>False
def bms:List Oper→List Nat→List Nat
  | [],acc=>acc
  |o::r,acc=>bms r (acc++[o.after.toList.foldl (fun s e=>if Region.binds .any e then s|||2 ^ e.on|||acc.getD e.on 0 else s) 0])
def clash (ops:Array Oper) (x y:Oper) (kx ky:Kd):Bool:=
  (match x.dst with|some d=>(y.looksAt ops).contains d||y.dst==some d|none=>false)|| (match y.dst with|some d=>(x.looksAt ops).contains d|none=>false)||
  (match kx,ky with| .write,.free=>false| .write,_=>true| .free,.write=>false|_,.write=>true| .new,.read=>true|_,_=>false)
def orderP (ops:Array Oper) (ks:List Kd):Bool:=
  let l:=ops.toList;let bm:=bms l [];let m:=l.zip ks
  (l.zipIdx.all fun x=>x.1.after.toList.all fun e=> !Region.binds .any e||Nat.blt e.on x.2) &&
  (m.zipIdx.all fun y=>m.zipIdx.all fun x=> !Nat.blt x.2 y.2|| !clash ops x.1.1 y.1.1 x.1.2 y.1.2|| (bm.getD y.2 0).testBit x.2) &&
  (m.zipIdx.all fun y=>m.zipIdx.all fun x=> !Nat.blt x.2 y.2|| !(decide (x.1.2= .write) && decide (y.1.2= .peek)))
def noPeek (ks:List Kd):Bool:=ks.all fun k=> !decide (k= .peek)
def orderOk (ops:Array Oper) (ks:List Kd):Bool:=orderP ops ks && noPeek ks
def Closed (l:List Oper) (S:Nat→Prop):Prop:= ∀ j o,l[j]?=some o→S j→ ∀ e∈o.after.toList,Region.binds .any e=true→S e.on
def Dep (l:List Oper) (i j:Nat):Prop:= ∀ S,Closed l S→S j→S i
theorem fold_bit (acc:List Nat) (i:Nat): ∀ (es:List Edge) (s:Nat),(es.foldl (fun s e=>if Region.binds .any e then s|||2 ^ e.on|||acc.getD e.on 0 else s) s).testBit i=true→
  s.testBit i=true∨ ∃ e∈es,Region.binds .any e=true∧(e.on=i∨(acc.getD e.on 0).testBit i=true)
  | [],s,h=> .inl h
  |e::es,s,h=>by
   rw [List.foldl_cons] at h;rcases fold_bit acc i es _ h with h|⟨e',h1,h2⟩
   ·split at h
    ·rename_i hb;rw [Nat.testBit_or,Nat.testBit_or,Nat.testBit_two_pow] at h;simp only [Bool.or_eq_true,decide_eq_true_eq] at h;rcases h with (h|h)|h
     ·exact .inl h
     ·exact .inr ⟨e,by simp,hb,.inl h⟩
     ·exact .inr ⟨e,by simp,hb,.inr h⟩
    ·exact .inl h
   ·exact .inr ⟨e',by simp [h1],h2⟩
theorem bms_dep (l:List Oper): ∀ (r pre:List Oper) (acc:List Nat),l=pre++r→acc.length=pre.length→(∀ j i,(acc.getD j 0).testBit i=true→Dep l i j)→ ∀ j i,((bms r acc).getD j 0).testBit i=true→Dep l i j
  | [],pre,acc,_,_,h,j,i,hb=>h j i hb
  |o::r,pre,acc,hl,hlen,h,j,i,hb=>by
   refine bms_dep l r (pre++[o]) _ (by simp [hl]) (by simp [hlen]) ?_ j i hb;intro j i hji;by_cases hj:j<acc.length
   ·rw [List.getD_eq_getElem?_getD,List.getElem?_append_left hj,←List.getD_eq_getElem?_getD] at hji;exact h j i hji
   ·by_cases hj2:j=acc.length
    ·subst hj2;rw [List.getD_eq_getElem?_getD,List.getElem?_append_right (Nat.le_refl _)] at hji;simp only [Nat.sub_self,List.getElem?_cons_zero,Option.getD_some] at hji;rcases fold_bit acc i _ 0 hji with h0|⟨e,h1,h2,h3⟩
     ·simp at h0
     ·intro S hS hj;have he:=hS acc.length o (by rw [hl,hlen];simp) hj e h1 h2;rcases h3 with rfl|h3
      ·exact he
      ·exact h e.on i h3 S hS he
    ·rw [List.getD_eq_getElem?_getD,List.getElem?_eq_none (by simp;omega)] at hji;simp at hji
section any
variable {P:Program} {n:Nat} {ops:Array Oper} {K:Nat} {A:List Item}
def frOf (l:List Oper) (vals:Nat→AV) (σ0:Fr):Nat→Fr
  |0=>σ0
  |i+1=>putF (frOf l vals σ0 i) ((l[i]?).bind (·.dst)) (vals i)
def StepOk (P:Program) (n:Nat) (ops:Array Oper) (K:Nat) (A:List Item) (l:List Oper) (ks:List Kd) (vals:Nat→AV) (sts:Nat→List Item) (σ0:Fr) (i:Nat):Prop:=
  ∀ o k,l[i]?=some o→ks[i]?=some k→dstOk n o∧match k with
   | .free=>YieldsG P ops o (frOf l vals σ0 i) A (K+i) (vals i) A∧sts (i+1)=sts i
   | .read=>YieldsG P ops o (frOf l vals σ0 i) (sts i) (K+i) (vals i) (sts i)∧sts (i+1)=sts i
   | .write=>YieldsG P ops o (frOf l vals σ0 i) (sts i) (K+i) (vals i) (sts (i+1))
   | .new=> ∃ its,sts (i+1)=its++sts i∧ ∀ st0,YieldsG P ops o (frOf l vals σ0 i) st0 (K+i) (vals i) (its++st0)
   | .peek=>(∃ N c,sts i=N++[c]∧YieldsG P ops o (frOf l vals σ0 i) [c] (K+i) (vals i) [c])∧sts (i+1)=sts i
theorem Drv.steps {Q:Fr→List Item→Prop}: ∀ (rest pre:List Oper) (kr kp:List Kd) (vals:Nat→AV) (sts:Nat→List Item) (σ0:Fr) (l:List Oper) (ks:List Kd),l=pre++rest→ks=kp++kr→kp.length=pre.length→
  (∀ i,i<pre.length→StepOk P n ops K A l ks vals sts σ0 i)→Drv P n ops K A Q pre.length rest kr (frOf l vals σ0 pre.length) (sts pre.length)→
  ∃ vals' sts',sts' 0=sts 0∧ks.length=l.length∧(∀ i,i<l.length→StepOk P n ops K A l ks vals' sts' σ0 i)∧Q (frOf l vals' σ0 l.length) (sts' l.length):=by
  intro rest;induction rest with
  |nil=>
   intro pre kr kp vals sts σ0 l ks hl hk hkl hs hd;cases kr with
   |nil=>
    simp only [List.append_nil] at hl hk;subst hl hk;exact⟨vals,sts,rfl,hkl,hs,hd⟩
   |cons k kr=>exact hd.elim
  |cons o rest ih=>
   intro pre kr kp vals sts σ0 l ks hl hk hkl hs hd;cases kr with
   |nil=>exact hd.elim
   |cons k kr=>
    have hget:l[pre.length]?=some o:=by rw [hl];simp
    have hkget:ks[pre.length]?=some k:=by rw [hk,←hkl];simp
    have key: ∀ (v:AV) (st':List Item),(dstOk n o∧match k with
     | .free=>YieldsG P ops o (frOf l vals σ0 pre.length) A (K+pre.length) v A∧st'=sts pre.length
     | .read=>YieldsG P ops o (frOf l vals σ0 pre.length) (sts pre.length) (K+pre.length) v (sts pre.length)∧st'=sts pre.length
     | .write=>YieldsG P ops o (frOf l vals σ0 pre.length) (sts pre.length) (K+pre.length) v st'
     | .new=> ∃ its,st'=its++sts pre.length∧ ∀ st0,YieldsG P ops o (frOf l vals σ0 pre.length) st0 (K+pre.length) v (its++st0)
     | .peek=>(∃ N c,sts pre.length=N++[c]∧YieldsG P ops o (frOf l vals σ0 pre.length) [c] (K+pre.length) v [c])∧st'=sts pre.length)→
     Drv P n ops K A Q (pre.length+1) rest kr (putF (frOf l vals σ0 pre.length) o.dst v) st'→
     ∃ vals' sts',sts' 0=sts 0∧ks.length=l.length∧(∀ i,i<l.length→StepOk P n ops K A l ks vals' sts' σ0 i)∧Q (frOf l vals' σ0 l.length) (sts' l.length):=by
     intro v st' hstep hd';let vals2:Nat→AV:=fun i=>if i=pre.length then v else vals i
     let sts2:Nat→List Item:=fun i=>if i=pre.length+1 then st' else sts i
     have hfr: ∀ i,i≤pre.length→frOf l vals2 σ0 i=frOf l vals σ0 i:=by
      intro i;induction i with
      |zero=>intro _;rfl
      |succ i ih2=>
       intro hi;simp only [frOf,ih2 (by omega)];have:vals2 i=vals i:=if_neg (by omega);rw [this]
     have hst: ∀ i,i≤pre.length→sts2 i=sts i:=fun i hi=>if_neg (by omega);have hv:vals2 pre.length=v:=if_pos rfl;have hs2:sts2 (pre.length+1)=st':=if_pos rfl;have h0:sts2 0=sts 0:=if_neg (by omega);rw [←h0];refine ih (pre++[o]) kr (kp++[k]) vals2 sts2 σ0 l ks (by simp [hl]) (by simp [hk]) (by simp [hkl]) ?_ ?_
     ·intro i hi;simp only [List.length_append,List.length_cons,List.length_nil] at hi;by_cases hip:i<pre.length
      ·have:=hs i hip;intro o' k' ho hk';have h1:=this o' k' ho hk';have e1:vals2 i=vals i:=if_neg (by omega);rw [hfr i (by omega),e1,hst i (by omega),hst (i+1) (by omega)];exact h1
      ·obtain rfl:i=pre.length:=by omega
       intro o' k' ho hk';rw [hget] at ho;cases ho;rw [hkget] at hk';cases hk';rw [hfr _ (Nat.le_refl _),hv,hs2,hst _ (Nat.le_refl _)];refine⟨hstep.1,?_⟩;have:=hstep.2;cases k<;>exact this
     ·simp only [List.length_append,List.length_cons,List.length_nil];have e2:frOf l vals2 σ0 (pre.length+1)=putF (frOf l vals σ0 pre.length) o.dst v:=by
       simp only [frOf,hfr _ (Nat.le_refl _),hv,hget,Option.bind_some]
      show Drv P n ops K A Q (pre.length+1) rest kr (frOf l vals2 σ0 (pre.length+1)) (sts2 (pre.length+1));rw [e2,hs2];exact hd'
    cases k with
    |free=>obtain⟨v,h1,h2,h3⟩:=hd;exact key v (sts pre.length) ⟨h1,h2,rfl⟩ h3
    |read=>obtain⟨v,h1,h2,h3⟩:=hd;exact key v (sts pre.length) ⟨h1,h2,rfl⟩ h3
    |write=>obtain⟨v,st',h1,h2,h3⟩:=hd;exact key v st' ⟨h1,h2⟩ h3
    |new=>obtain⟨v,its,h1,h2,h3⟩:=hd;exact key v (its++sts pre.length) ⟨h1,its,rfl,h2⟩ h3
    |peek=>obtain⟨v,N,c,h0,h1,h2,h3⟩:=hd;exact key v (sts pre.length) ⟨h1,⟨N,c,h0,h2⟩,rfl⟩ h3
def frS (l:List Oper) (vals:Nat→AV) (σ0:Fr) (L:Nat→Bool):Nat→Fr
  |0=>σ0
  |i+1=>if L i then putF (frS l vals σ0 L i) ((l[i]?).bind (·.dst)) (vals i) else frS l vals σ0 L i
def newI (sts:Nat→List Item) (i:Nat):List Item:=(sts (i+1)).take ((sts (i+1)).length - (sts i).length)
theorem newI_eq {sts:Nat→List Item} {i:Nat} {its:List Item} (h:sts (i+1)=its++sts i):newI sts i=its:=by
  unfold newI;rw [h,List.length_append,Nat.add_sub_cancel,List.take_left]
def stS (ks:List Kd) (sts:Nat→List Item) (L:Nat→Bool):Nat→List Item
  |0=>sts 0
  |i+1=>if L i=true∧ks[i]?=some .write then sts (i+1) else if L i=true∧ks[i]?=some .new then newI sts i++stS ks sts L i else stS ks sts L i
theorem look_putF (σ:Fr) (d:Option Tmp) (v:AV) (t:Nat):look (putF σ d v) t=if d=some t then some v else look σ t:=by
  cases d with
  |none=>simp [putF]
  |some d=>simp only [putF,look_cons,Option.some.injEq]
theorem look_frS {l:List Oper} {vals:Nat→AV} {σ0:Fr} {L:Nat→Bool} {t j:Nat}: ∀ (m:Nat),(∀ i,i<m→(l[i]?).bind (·.dst)=some t→(L i=true↔i<j))→look (frS l vals σ0 L m) t=look (frOf l vals σ0 (min m j)) t
  |0,_=>by simp [frS,frOf]
  |m+1,h=>by
   have ih:=look_frS (l:=l) (vals:=vals) (σ0:=σ0) (L:=L) (t:=t) (j:=j) m (fun i hi=>h i (by omega));simp only [frS];by_cases hd:(l[m]?).bind (·.dst)=some t
   ·have hm:=h m (by omega) hd;by_cases hj:m<j
    ·rw [if_pos (hm.2 hj),look_putF,if_pos hd,show min (m+1) j=m+1 by omega,frOf,look_putF,if_pos hd]
    ·rw [if_neg (fun e=>hj (hm.1 e)),ih,show min (m+1) j=j by omega,show min m j=j by omega]
   ·have hfr:look (frOf l vals σ0 (min (m+1) j)) t=look (frOf l vals σ0 (min m j)) t:=by
     by_cases hj:m<j
     ·rw [show min (m+1) j=m+1 by omega,show min m j=m by omega,frOf,look_putF,if_neg hd]
     ·rw [show min (m+1) j=j by omega,show min m j=j by omega]
    rw [hfr,←ih];split
    ·rw [look_putF,if_neg hd]
    ·rfl
theorem stS_eq {ks:List Kd} {sts:Nat→List Item} {L:Nat→Bool} {j:Nat}: ∀ (m:Nat),(∀ i,i<m→ks[i]?≠some .write→ks[i]?≠some .new→sts (i+1)=sts i)→(∀ i,i<m→ks[i]?=some .new→sts (i+1)=newI sts i++sts i)→(∀ i,i<m→ks[i]?=some .write∨ks[i]?=some .new→(L i=true↔i<j))→stS ks sts L m=sts (min m j)
  |0,_,_,_=>by simp [stS]
  |m+1,hc,hn,h=>by
   have ih:=stS_eq (ks:=ks) (sts:=sts) (L:=L) (j:=j) m (fun i hi=>hc i (by omega)) (fun i hi=>hn i (by omega)) (fun i hi=>h i (by omega));simp only [stS];by_cases hk:ks[m]?=some .write
   ·have hm:=h m (by omega) (.inl hk);by_cases hj:m<j
    ·rw [if_pos ⟨hm.2 hj,hk⟩,show min (m+1) j=m+1 by omega]
    ·rw [if_neg (fun e=>hj (hm.1 e.1)),if_neg (fun e=>hj (hm.1 e.1)),ih,show min (m+1) j=j by omega,show min m j=j by omega]
   ·rw [if_neg (fun e=>hk e.2)];by_cases hk2:ks[m]?=some .new
    ·have hm:=h m (by omega) (.inr hk2);by_cases hj:m<j
     ·rw [if_pos ⟨hm.2 hj,hk2⟩,ih,show min (m+1) j=m+1 by omega,show min m j=m by omega,hn m (by omega) hk2]
     ·rw [if_neg (fun e=>hj (hm.1 e.1)),ih,show min (m+1) j=j by omega,show min m j=j by omega]
    ·rw [if_neg (fun e=>hk2 e.2),ih];by_cases hj:m<j
     ·rw [show min (m+1) j=m+1 by omega,show min m j=m by omega,hc m (by omega) hk hk2]
     ·rw [show min (m+1) j=j by omega,show min m j=j by omega]
theorem stS_read {ks:List Kd} {sts:Nat→List Item} {L:Nat→Bool} {j:Nat}: ∀ (m:Nat),(∀ i,i<m→ks[i]?≠some .write→ks[i]?≠some .new→sts (i+1)=sts i)→(∀ i,i<m→ks[i]?=some .new→sts (i+1)=newI sts i++sts i)→(∀ i,i<m→ks[i]?=some .write→(L i=true↔i<j))→(∀ i,i<m→ks[i]?=some .new→i<j→L i=true)→
  ∃ N,(stS ks sts L m).Perm (sts (min m j)++N)
  |0,_,_,_,_=>⟨[],by simp [stS]⟩
  |m+1,hc,hn,hw,hr=>by
   obtain⟨N,ih⟩:=stS_read (ks:=ks) (sts:=sts) (L:=L) (j:=j) m (fun i hi=>hc i (by omega)) (fun i hi=>hn i (by omega)) (fun i hi=>hw i (by omega)) (fun i hi=>hr i (by omega));simp only [stS];by_cases hk:ks[m]?=some .write
   ·have hm:=hw m (by omega) hk;by_cases hj:m<j
    ·rw [if_pos ⟨hm.2 hj,hk⟩,show min (m+1) j=m+1 by omega];exact⟨[],by simp⟩
    ·rw [if_neg (fun e=>hj (hm.1 e.1)),if_neg (fun e=>by rw [hk] at e;simp at e),show min (m+1) j=j by omega];rw [show min m j=j by omega] at ih;exact⟨N,ih⟩
   ·rw [if_neg (fun e=>hk e.2)];by_cases hk2:ks[m]?=some .new
    ·by_cases hj:m<j
     ·rw [if_pos ⟨hr m (by omega) hk2 hj,hk2⟩,show min (m+1) j=m+1 by omega,hn m (by omega) hk2];rw [show min m j=m by omega] at ih;exact⟨N,by rw [List.append_assoc];exact List.Perm.append_left _ ih⟩
     ·rw [show min (m+1) j=j by omega];rw [show min m j=j by omega] at ih;split
      ·refine⟨newI sts m++N,(List.Perm.append_left _ ih).trans ?_⟩;rw [←List.append_assoc,←List.append_assoc];exact List.Perm.append_right _ List.perm_append_comm
      ·exact⟨N,ih⟩
    ·rw [if_neg (fun e=>hk2 e.2)];by_cases hj:m<j
     ·rw [show min (m+1) j=m+1 by omega,hc m (by omega) hk hk2];rw [show min m j=m by omega] at ih;exact⟨N,ih⟩
     ·rw [show min (m+1) j=j by omega];rw [show min m j=j by omega] at ih;exact⟨N,ih⟩
theorem stS_start {ks:List Kd} {sts:Nat→List Item} {L:Nat→Bool}: ∀ (m:Nat),(∀ i,i<m→ks[i]?=some .write→L i=false)→ ∃ N,stS ks sts L m=N++sts 0
  |0,_=>⟨[],rfl⟩
  |m+1,h=>by
   obtain⟨N,ih⟩:=stS_start m (fun i hi=>h i (by omega));simp only [stS];by_cases hk:L m=true∧ks[m]?=some .write
   ·have:=h m (by omega) hk.2;rw [hk.1] at this;cases this
   ·rw [if_neg hk];split
    ·exact⟨newI sts m++N,by rw [ih,List.append_assoc]⟩
    ·exact⟨N,ih⟩
theorem sts_start {ks:List Kd} {sts:Nat→List Item}: ∀ (j:Nat),(∀ i,i<j→ks[i]?≠some .write→ks[i]?≠some .new→sts (i+1)=sts i)→(∀ i,i<j→ks[i]?=some .new→sts (i+1)=newI sts i++sts i)→(∀ i,i<j→ks[i]?≠some .write)→ ∃ N,sts j=N++sts 0
  |0,_,_,_=>⟨[],rfl⟩
  |j+1,hc,hn,hw=>by
   obtain⟨N,ih⟩:=sts_start j (fun i hi=>hc i (by omega)) (fun i hi=>hn i (by omega)) (fun i hi=>hw i (by omega));by_cases hk:ks[j]?=some .new
   ·exact⟨newI sts j++N,by rw [hn j (by omega) hk,ih,List.append_assoc]⟩
   ·exact⟨N,by rw [hc j (by omega) (hw j (by omega)) hk,ih]⟩
theorem stS_new {ks:List Kd} {sts:Nat→List Item} {L L':Nat→Bool} {j:Nat} (hj:ks[j]?=some .new) (hL:L j=false) (hL':L' j=true) (hsame: ∀ i,i≠j→L' i=L i) (hno: ∀ i,j<i→ks[i]?=some .write→L i=false): ∀ m,(stS ks sts L' m).Perm (if j<m then newI sts j++stS ks sts L m else stS ks sts L m)
  |0=>by simp [stS]
  |m+1=>by
   have ih:=stS_new (sts:=sts) hj hL hL' hsame hno m;by_cases hm:m=j
   ·subst hm;rw [if_neg (Nat.lt_irrefl _)] at ih;rw [if_pos (Nat.lt_succ_self _)];have e1:stS ks sts L' (m+1)=newI sts m++stS ks sts L' m:=by
     simp only [stS];rw [if_neg (fun e=>by rw [hj] at e;simp at e),if_pos ⟨hL',hj⟩]
    have e2:stS ks sts L (m+1)=stS ks sts L m:=by
     simp only [stS];rw [if_neg (fun e=>by rw [hL] at e;simp at e),if_neg (fun e=>by rw [hL] at e;simp at e)]
    rw [e1,e2];exact List.Perm.append_left _ ih
   ·have e:=hsame m hm;by_cases hlt:j<m
    ·rw [if_pos hlt] at ih;rw [if_pos (by omega)];simp only [stS,e];by_cases h1:L m=true∧ks[m]?=some .write
     ·have:=hno m hlt h1.2;rw [h1.1] at this;cases this
     ·rw [if_neg h1,if_neg h1];split
      ·refine (List.Perm.append_left _ ih).trans ?_;rw [←List.append_assoc,←List.append_assoc];exact List.Perm.append_right _ List.perm_append_comm
      ·exact ih
    ·rw [if_neg hlt] at ih;rw [if_neg (by omega)];simp only [stS,e];split
     ·exact List.Perm.refl _
     ·split
      ·exact List.Perm.append_left _ ih
      ·exact ih
end any
end Go.Aw
namespace Go.Aw
open Go.RowKit (Below)
section any
variable {P:Program} {n:Nat} {ops:Array Oper} {K:Nat} {A:List Item}
theorem orderOk_spec {ks:List Kd} (h:orderP ops ks=true) (hl:ks.length=ops.toList.length):
  (∀ j o,ops.toList[j]?=some o→ ∀ e∈o.after.toList,Region.binds .any e=true→e.on<j)∧
  (∀ i j x y kx ky,i<j→ops.toList[i]?=some x→ops.toList[j]?=some y→ks[i]?=some kx→ks[j]?=some ky→clash ops x y kx ky=true→Dep ops.toList i j)∧
  (∀ (i j:Nat) (x y:Oper),i<j→ops.toList[i]?=some x→ops.toList[j]?=some y→ks[i]?=some Kd.write→ks[j]?=some Kd.peek→False):=by
  simp only [orderP,Bool.and_eq_true,List.all_eq_true] at h;obtain⟨⟨h1,h2⟩,h3⟩:=h;refine⟨fun j o ho e he hb=> ?_,fun i j x y kx ky hij hx hy hkx hky hc=> ?_,fun i j x y hij hx hy hkx hky=> ?_⟩
  ·have:=h1 (o,j) (List.mem_zipIdx_iff_getElem?.2 ho) e he;simp only [hb,Bool.not_true,Bool.false_or] at this;exact blt_lt this
  ·have hx':(ops.toList.zip ks)[i]?=some (x,kx):=by rw [List.getElem?_zip_eq_some];exact⟨hx,hkx⟩
   have hy':(ops.toList.zip ks)[j]?=some (y,ky):=by rw [List.getElem?_zip_eq_some];exact⟨hy,hky⟩
   have:=h2 ((y,ky),j) (List.mem_zipIdx_iff_getElem?.2 hy') ((x,kx),i) (List.mem_zipIdx_iff_getElem?.2 hx');simp only at this;have hb:Nat.blt i j=true:=by rw [Nat.blt_eq];exact hij
   rw [hb,hc] at this;simp only [Bool.not_true,Bool.false_or] at this;exact bms_dep ops.toList ops.toList [] [] rfl rfl (fun j i hb=>by simp at hb) j i this
  ·have hx':(ops.toList.zip ks)[i]?=some (x,.write):=by rw [List.getElem?_zip_eq_some];exact⟨hx,hkx⟩
   have hy':(ops.toList.zip ks)[j]?=some (y,.peek):=by rw [List.getElem?_zip_eq_some];exact⟨hy,hky⟩
   have:=h3 ((y,.peek),j) (List.mem_zipIdx_iff_getElem?.2 hy') ((x,.write),i) (List.mem_zipIdx_iff_getElem?.2 hx');simp only at this;have hb:Nat.blt i j=true:=by rw [Nat.blt_eq];exact hij
   rw [hb] at this;simp at this
theorem orderOk.p {ks:List Kd} (h:orderOk ops ks=true):orderP ops ks=true∧noPeek ks=true:=by
  unfold orderOk at h;rwa [Bool.and_eq_true] at h
theorem noPeek_at {ks:List Kd} (h:noPeek ks=true) {i:Nat} (hi:ks[i]?=some .peek):False:=by
  unfold noPeek at h;rw [List.all_eq_true] at h;have:=h .peek (List.mem_of_getElem? hi);simp at this
structure InvL (n:Nat) (ops:Array Oper) (K:Nat) (ks:List Kd) (vals:Nat→AV) (sts:Nat→List Item) (σ0:Fr) (F:List Item) (g0:Ghost) (L:Array Bool) (g:Ghost) (a:Act) (w:World):Prop where
  size:L.size=ops.size
  closed:Closed ops.toList (fun i=>L.getD i false=true)
  slots:RelF n g (frS ops.toList vals σ0 (fun i=>L.getD i false) ops.size) a
  world:RelW g (stS ks sts (fun i=>L.getD i false) ops.size++F) w
  ext:g0.ext g
  ids: ∀ i,i<ops.size→L.getD i false=false→g.loc (K+i)=none
  next:K+ops.size≤g.next
  old:g0.next≤K
theorem getD_set {L:Array Bool} {i j:Nat} (hi:i<L.size):(L.setIfInBounds i true).getD j false=if j=i then true else L.getD j false:=by
  simp only [Array.getD_eq_getD_getElem?,Array.getElem?_setIfInBounds];by_cases h:i=j
  ·subst h;simp [hi]
  ·have: ¬ j=i:=fun e=>h e.symm;simp [h,this]
theorem inv_step {ks:List Kd} {vals:Nat→AV} {sts:Nat→List Item} {σ0:Fr} {F:List Item} {g0 g:Ghost} {L:Array Bool} {a:Act} {w:World} (hks:ks.length=ops.toList.length) (hok:orderP ops ks=true) (hB:noPeek ks=true∨sts 0≠[])
  (hs: ∀ i,i<ops.toList.length→StepOk P n ops K A ops.toList ks vals sts σ0 i) (h:InvL n ops K ks vals sts σ0 (A++F) g0 L g a w) {j:Nat} (hj:j∈Region.ready .any ops L)
  {Q:Exit→Act→World→Prop} {R:Act→World→Prop} (hR: ∀ g' a' w',InvL n ops K ks vals sts σ0 (A++F) g0 (L.setIfInBounds j true) g' a' w'→R a' w'):wpOp P ops Q j R a w:=by
  obtain⟨hedge,hdep,hpk⟩:=orderOk_spec hok hks;unfold Region.ready at hj;rw [List.mem_filter,List.mem_range] at hj;obtain⟨hjn,hj2⟩:=hj;simp only [Bool.and_eq_true,Bool.not_eq_true'] at hj2;obtain⟨hjL,hjafter⟩:=hj2;have hjL':L.getD j false=false:=by
   have:j<L.size:=by rw [h.size];exact hjn
   simp only [Array.getD_eq_getD_getElem?] at hjL ⊢;rw [Array.getElem?_eq_getElem this] at hjL ⊢;exact hjL
  have ho:ops[j]?=some ops[j]:=Array.getElem?_eq_getElem hjn;have hoL:ops.toList[j]?=some ops[j]:=by simp [ho]
  have hjl:j<ops.toList.length:=by simpa using hjn
  have hkj:ks[j]?=some ks[j]:=List.getElem?_eq_getElem (by omega);generalize hoj:ops[j]=o at*;generalize hkjj:ks[j]=k at*;have hafter: ∀ e∈o.after.toList,Region.binds .any e=true→L.getD e.on false=true:=by
   intro e he hb;simp only [ho,Option.map_some,Option.getD_some] at hjafter;rw [Array.all_eq_true_iff_forall_mem] at hjafter;have:=hjafter e (by simpa using he);simpa [hb] using this
  have hclosed':Closed ops.toList (fun i=>(L.setIfInBounds j true).getD i false=true):=by
   intro j' o' ho' hS e he hb;have hsz:j<L.size:=by rw [h.size];exact hjn
   simp only [getD_set hsz] at hS ⊢;by_cases hjj:j'=j
   ·subst hjj;rw [hoL] at ho';cases ho';have:=hafter e he hb;split
    ·rfl
    ·exact this
   ·rw [if_neg hjj] at hS;have:=h.closed j' o' ho' hS e he hb;split
    ·rfl
    ·exact this
  have hsz:j<L.size:=by rw [h.size];exact hjn
  have before_in: ∀ i,Dep ops.toList i j→i≠j→L.getD i false=true:=by
   intro i hd hne;have:=hd _ hclosed' (by rw [getD_set hsz];simp);rw [getD_set hsz,if_neg hne] at this;exact this
  have after_out: ∀ i,Dep ops.toList j i→L.getD i false=false:=by
   intro i hd;cases hc:L.getD i false with
   |false=>rfl
   |true=>
    have:=hd _ h.closed hc;rw [hjL'] at this;cases this
  have order: ∀ i x kx,ops.toList[i]?=some x→ks[i]?=some kx→i≠j→(i<j→clash ops x o kx k=true)→(j<i→clash ops o x k kx=true)→(L.getD i false=true↔i<j):=by
   intro i x kx hx hkx hne h1 h2;rcases Nat.lt_or_gt_of_ne hne with hlt|hgt
   ·exact⟨fun _=>hlt,fun _=>before_in i (hdep i j x o kx k hlt hx hoL hkx hkj (h1 hlt)) hne⟩
   ·refine⟨fun hc=> ?_,fun hc=>by omega⟩;rw [after_out i (hdep j i o x k kx hgt hoL hx hkj hkx (h2 hgt))] at hc;cases hc
  have hget: ∀ i,i<ops.size→ ∃ x kx,ops.toList[i]?=some x∧ks[i]?=some kx:=fun i hi=>⟨ops[i],ks[i]'(by simp at hks;omega),by simp [hi],List.getElem?_eq_getElem _⟩
  have hslots:Slots g (frOf ops.toList vals σ0 j) a (o.looksAt ops):=by
   intro t ht v hv;refine h.slots.slot t v ?_;rw [look_frS (j:=j) ops.size,show min ops.size j=j by omega]
   ·exact hv
   ·intro i hi hd;obtain⟨x,kx,hx,hkx⟩:=hget i hi;have hdx:x.dst=some t:=by simpa [hx] using hd
    by_cases hij:i=j
    ·subst hij;simp [hjL']
    ·refine order i x kx hx hkx hij (fun _=> ?_) (fun _=> ?_)
     ·simp [clash,hdx,ht]
     ·simp [clash,hdx,ht]
  have hsts_const: ∀ i,i<ops.size→ks[i]?≠some .write→ks[i]?≠some .new→sts (i+1)=sts i:=by
   intro i hi hne hne2;obtain⟨x,kx,hx,hkx⟩:=hget i hi;have:=(hs i (by simpa using hi) x kx hx hkx).2;cases kx with
   |free=>exact this.2
   |read=>exact this.2
   |write=>exact absurd hkx hne
   |new=>exact absurd hkx hne2
   |peek=>exact this.2
  have hsts_new: ∀ i,i<ops.size→ks[i]?=some .new→sts (i+1)=newI sts i++sts i:=by
   intro i hi hne;obtain⟨x,kx,hx,hkx⟩:=hget i hi;rw [hkx] at hne;cases hne;obtain⟨its,h1,_⟩:=(hs i (by simpa using hi) x .new hx hkx).2;rw [newI_eq h1];exact h1
  have hst:k= .write→stS ks sts (fun i=>L.getD i false) ops.size=sts j:=by
   intro hk;subst hk;rw [stS_eq (j:=j) ops.size hsts_const hsts_new,show min ops.size j=j by omega];intro i hi hw';obtain⟨x,kx,hx,hkx⟩:=hget i hi;by_cases hij:i=j
   ·subst hij;simp [hjL']
   ·rcases hw' with hw'|hw'<;>rw [hkx] at hw'<;>cases hw'<;>refine order i x _ hx hkx hij (fun _=> ?_) (fun _=> ?_)<;>simp [clash]
  have hst_read:k= .read→ ∃ N,(stS ks sts (fun i=>L.getD i false) ops.size).Perm (sts j++N):=by
   intro hk;subst hk;have:=stS_read (j:=j) (L:=fun i=>L.getD i false) ops.size hsts_const hsts_new (fun i hi hw'=> ?_) (fun i hi hw' hij=> ?_)
   ·rwa [show min ops.size j=j by omega] at this
   ·obtain⟨x,kx,hx,hkx⟩:=hget i hi;by_cases hij:i=j
    ·subst hij;simp [hjL']
    ·rw [hkx] at hw';cases hw';exact order i x _ hx hkx hij (fun _=>by simp [clash]) (fun _=>by simp [clash])
   ·obtain⟨x,kx,hx,hkx⟩:=hget i hi;rw [hkx] at hw';cases hw';exact (order i x _ hx hkx (by omega) (fun _=>by simp [clash]) (fun _=>by omega)).2 hij
  have hst_peek:k= .peek→ ∀ N0 c,sts j=N0++[c]→ ∃ N,(stS ks sts (fun i=>L.getD i false) ops.size).Perm ([c]++N):=by
   intro hk N0 c hc;subst hk;have hne:sts 0≠[]:=by
    rcases hB with h1|h1
    ·unfold noPeek at h1;rw [List.all_eq_true] at h1;have:=h1 .peek (List.mem_of_getElem? hkj);simp at this
    ·exact h1
   obtain⟨N1,h1⟩:=stS_start (ks:=ks) (sts:=sts) (L:=fun i=>L.getD i false) ops.size (fun i hi hw'=>by
    obtain⟨x,kx,hx,hkx⟩:=hget i hi;have hij:i≠j:=fun e=>by subst e;rw [hkj] at hw';cases hw'
    rcases Nat.lt_or_gt_of_ne hij with hlt|hgt
    ·exact absurd (hpk i j x o hlt hx hoL hw' hkj) id
    ·rw [hkx] at hw';cases hw';exact after_out i (hdep j i o x .peek .write hgt hoL hx hkj hkx (by simp [clash])))
   obtain⟨N2,h2⟩:=sts_start (ks:=ks) (sts:=sts) j (fun i hi=>hsts_const i (by omega)) (fun i hi=>hsts_new i (by omega)) (fun i hi hw'=>by
    obtain⟨x,kx,hx,hkx⟩:=hget i (by omega);exact hpk i j x o hi hx hoL hw' hkj)
   have h3:sts 0=(sts 0).dropLast++[c]:=by
    have e1:(sts 0).getLast?=some c:=by
     have:(sts j).getLast?=some c:=by rw [hc];simp
     rw [h2,List.getLast?_append] at this;cases e:(sts 0).getLast? with
     |none=>exact absurd (List.getLast?_eq_none_iff.1 e) hne
     |some y=>rw [e] at this;simpa using this
    have e2:=List.dropLast_concat_getLast hne;have e3:(sts 0).getLast hne=c:=by
     rw [List.getLast?_eq_some_getLast hne] at e1;exact Option.some.inj e1
    rw [e3] at e2;exact e2.symm
   refine⟨N1++(sts 0).dropLast,?_⟩;rw [h1];refine (List.Perm.append_left N1 (by rw [←h3]:(sts 0).Perm ((sts 0).dropLast++[c]))).trans ?_;rw [←List.append_assoc];exact List.perm_append_comm
  have hstep:=hs j hjl o k hoL hkj;have hidj:g.loc (K+j)=none:=h.ids j hjn hjL';have finish: ∀ (g':Ghost) (u:Value) (w':World),g.to (K+j) g'→(vals j).holds g' u→RelW g' (stS ks sts (fun i=>(L.setIfInBounds j true).getD i false) ops.size++(A++F)) w'→R (a.put o.dst u) w':=by
   intro g' u w' hto hv hw';refine hR g' _ w' ⟨by simp [h.size],hclosed',?_,hw',⟨h.ext.le.trans hto.le,fun i hi=>(hto.keep i (Nat.lt_of_lt_of_le hi h.ext.le.next) (by have:=h.old;omega)).trans (h.ext.keep i hi)⟩,?_,Nat.le_trans h.next hto.le.next,h.old⟩
   ·refine⟨?_,by cases o.dst<;>exact h.slots.defers,?_⟩
    ·have:=h.slots.size;cases hd:o.dst<;>simp [Act.put,this]
    ·intro t v hlook;by_cases hdt:o.dst=some t
     ·have:look (frS ops.toList vals σ0 (fun i=>(L.setIfInBounds j true).getD i false) ops.size) t=some (vals j):=by
       rw [look_frS (j:=j+1) ops.size,show min ops.size (j+1)=j+1 by omega]
       ·rw [frOf,look_putF,if_pos (by simp [hoL,hdt])]
       ·intro i hi hd;obtain⟨x,kx,hx,hkx⟩:=hget i hi;have hdx:x.dst=some t:=by simpa [hx] using hd
        rw [getD_set hsz];by_cases hij:i=j
        ·subst hij;simp
        ·rw [if_neg hij];rw [order i x kx hx hkx hij (fun _=>by simp [clash,hdx,hdt]) (fun _=>by simp [clash,hdx,hdt])];omega
      rw [this] at hlook;cases hlook;have hlt:=hstep.1 t hdt;exact⟨u,by simp [hdt,Act.put,h.slots.size,hlt],hv⟩
     ·have:look (frS ops.toList vals σ0 (fun i=>(L.setIfInBounds j true).getD i false) ops.size) t=look (frS ops.toList vals σ0 (fun i=>L.getD i false) ops.size) t:=by
       have hgen: ∀ m,look (frS ops.toList vals σ0 (fun i=>(L.setIfInBounds j true).getD i false) m) t=look (frS ops.toList vals σ0 (fun i=>L.getD i false) m) t:=by
        intro m;induction m with
        |zero=>rfl
        |succ m ih=>
         simp only [frS,getD_set hsz];by_cases hm:m=j
         ·subst hm;have hne: ¬ ((ops.toList[m]?).bind (·.dst)=some t):=by simp [hoL,hdt]
          simp only [hjL',if_true,look_putF,if_neg hne,Bool.false_eq_true,if_false];simpa only [getD_set hsz] using ih
         ·rw [if_neg hm];split
          ·rw [look_putF,look_putF];split
           ·rfl
           ·simpa only [getD_set hsz] using ih
          ·simpa only [getD_set hsz] using ih
       exact hgen _
      rw [this] at hlook;obtain⟨u',p,q⟩:=h.slots.slot t v hlook;refine⟨u',?_,v.mono hto.le q⟩;cases hd:o.dst with
      |none=>simpa [Act.put] using p
      |some d=>
       have:d≠t:=fun e=>hdt (by rw [hd,e]);simp [Act.put,Array.getElem?_setIfInBounds_ne this,p]
   ·intro i hi hLi;rw [getD_set hsz] at hLi;by_cases hij:i=j
    ·subst hij;simp at hLi
    ·rw [if_neg hij] at hLi;rw [hto.keep (K+i) (by have:=h.next;omega) (by omega)];exact h.ids i hi hLi
  have hst_same:k≠ .write→k≠ .new→stS ks sts (fun i=>(L.setIfInBounds j true).getD i false) ops.size=stS ks sts (fun i=>L.getD i false) ops.size:=by
   intro hk hk2;have: ∀ m,stS ks sts (fun i=>(L.setIfInBounds j true).getD i false) m=stS ks sts (fun i=>L.getD i false) m:=by
    intro m;induction m with
    |zero=>rfl
    |succ m ih=>
     simp only [stS,getD_set hsz] at ih ⊢;by_cases hm:m=j
     ·subst hm;have: ¬ (ks[m]?=some .write):=by rw [hkj];simpa using hk
      have h2: ¬ (ks[m]?=some .new):=by rw [hkj];simpa using hk2
      simp only [this,h2,and_false,if_false];exact ih
     ·rw [if_neg hm];split
      ·rfl
      ·split
       ·rw [ih]
       ·exact ih
   exact this _
  have hst_write:k= .write→stS ks sts (fun i=>(L.setIfInBounds j true).getD i false) ops.size=sts (j+1):=by
   intro hk;subst hk;rw [stS_eq (j:=j+1) ops.size hsts_const hsts_new,show min ops.size (j+1)=j+1 by omega];intro i hi hw';obtain⟨x,kx,hx,hkx⟩:=hget i hi;rw [getD_set hsz];by_cases hij:i=j
   ·subst hij;simp
   ·have:=order i x kx hx hkx hij (fun _=>by rcases hw' with hw'|hw'<;>rw [hkx] at hw'<;>cases hw'<;>simp [clash]) (fun _=>by rcases hw' with hw'|hw'<;>rw [hkx] at hw'<;>cases hw'<;>simp [clash]);rw [if_neg hij,this];omega
  unfold wpOp;rw [ho];simp only;have run: ∀ (st1 st2 F1:List Item),YieldsG P ops o (frOf ops.toList vals σ0 j) st1 (K+j) (vals j) st2→(stS ks sts (fun i=>L.getD i false) ops.size++(A++F)).Perm (st1++F1)→(stS ks sts (fun i=>(L.setIfInBounds j true).getD i false) ops.size++(A++F)).Perm (st2++F1)→
   if Region.wanted o (yielded ops a.tmps) then o.wp P a w R Q∨(o.asks P a w∧LetsOut Q) else R (a.put o.dst undef) w:=by
   intro st1 st2 F1 hy e1 e2;have:=hy F1 g a w (h.world.perm e1) hidj hslots;split
   ·rename_i hwn;rw [if_pos hwn] at this;refine .inl (this.wp fun u w' ⟨g',hto,hw',hv⟩=>finish g' u w' hto hv (hw'.perm e2.symm))
   ·rename_i hwn;rw [if_neg hwn] at this;obtain⟨e,hv⟩:=this;exact finish g undef w (Ghost.to.refl g _) hv (((h.world.perm e1)).perm (by rw [←e];exact e2.symm))
  have swap: ∀ X:List Item,(X++(A++F)).Perm (A++(X++F)):=fun X=>by
   rw [←List.append_assoc,←List.append_assoc];exact List.Perm.append_right F List.perm_append_comm
  cases k with
  |free=>exact run A A (stS ks sts (fun i=>L.getD i false) ops.size++F) hstep.2.1 (swap _) (by rw [hst_same (by simp) (by simp)];exact swap _)
  |read=>
   obtain⟨N,hN⟩:=hst_read rfl;have hp:(stS ks sts (fun i=>L.getD i false) ops.size++(A++F)).Perm (sts j++(N++(A++F))):=by rw [←List.append_assoc (sts j)];exact hN.append_right _
   exact run (sts j) (sts j) (N++(A++F)) hstep.2.1 hp (by rw [hst_same (by simp) (by simp)];exact hp)
  |peek=>
   obtain⟨⟨N0,c,hc,hy⟩,-⟩:=hstep.2;obtain⟨N,hN⟩:=hst_peek rfl N0 c hc;have hp:(stS ks sts (fun i=>L.getD i false) ops.size++(A++F)).Perm ([c]++(N++(A++F))):=by rw [←List.append_assoc [c]];exact hN.append_right _
   exact run [c] [c] (N++(A++F)) hy hp (by rw [hst_same (by simp) (by simp)];exact hp)
  |write=>exact run (sts j) (sts (j+1)) (A++F) hstep.2 (by rw [hst rfl]) (by rw [hst_write rfl])
  |new=>
   obtain⟨its,h1,h2⟩:=hstep.2;refine run (stS ks sts (fun i=>L.getD i false) ops.size) (its++stS ks sts (fun i=>L.getD i false) ops.size) (A++F) (h2 _) (List.Perm.refl _) (List.Perm.append_right _ ?_);have:=stS_new (sts:=sts) (L:=fun i=>L.getD i false) (L':=fun i=>(L.setIfInBounds j true).getD i false) hkj hjL' (by simp [getD_set hsz]) (fun i hi=>by simp [getD_set hsz,hi]) (fun i hi hw'=>by
    have hin:i<ops.size:=by
     have:=(List.getElem?_eq_some_iff.1 hw').1;simp at hks;omega
    obtain⟨x,kx,hx,hkx⟩:=hget i hin;rw [hkx] at hw';cases hw';have:=order i x .write hx hkx (by omega) (fun _=>by omega) (fun _=>by simp [clash]);cases hc:L.getD i false with
    |false=>rfl
    |true=>have:=this.1 hc;omega) ops.size
   rw [if_pos hjn,newI_eq h1] at this;exact this
theorem any_run {ks:List Kd} {vals:Nat→AV} {sts:Nat→List Item} {σ0:Fr} {F:List Item} {g0:Ghost} (hks:ks.length=ops.toList.length) (hok:orderP ops ks=true) (hB:noPeek ks=true∨sts 0≠[])
  (hs: ∀ i,i<ops.toList.length→StepOk P n ops K A ops.toList ks vals sts σ0 i) {Q:Exit→Act→World→Prop}
  (hQ: ∀ g a w,g0.ext g→RelF n g (frOf ops.toList vals σ0 ops.toList.length) a→RelW g (sts ops.toList.length++(A++F)) w→Q .normal a w):
  ∀ (fuel:Nat) (L:Array Bool) (g:Ghost) (a:Act) (w:World),InvL n ops K ks vals sts σ0 (A++F) g0 L g a w→L.toList.countP (fun b=> !b)=fuel→wpAny P .any ops Q fuel L a w:=by
  obtain⟨hedge,_,_⟩:=orderOk_spec hok hks;have done: ∀ (L:Array Bool) (g:Ghost) (a:Act) (w:World),InvL n ops K ks vals sts σ0 (A++F) g0 L g a w→Region.ready .any ops L=[]→Q .normal a w:=by
   intro L g a w h hr;have all: ∀ i,i<ops.size→L.getD i false=true:=by
    intro i;induction i using Nat.strongRecOn with
    |_ i ih=>
     intro hi;cases hc:L.getD i false with
     |true=>rfl
     |false=>
      exfalso;have hmem:i∈Region.ready .any ops L:=by
       unfold Region.ready;rw [List.mem_filter,List.mem_range];refine⟨hi,?_⟩;have hL:L.getD i true=false:=by
        have hlt:i<L.size:=by rw [h.size];exact hi
        simp only [Array.getD_eq_getD_getElem?] at hc ⊢;rw [Array.getElem?_eq_getElem hlt] at hc ⊢;exact hc
       simp only [hL,Bool.not_false,Bool.true_and,Array.getElem?_eq_getElem hi,Option.map_some,Option.getD_some];rw [Array.all_eq_true_iff_forall_mem];intro e he;cases hb:Region.binds .any e with
       |false=>rfl
       |true=>
        have hlt:=hedge i ops[i] (by simp [hi]) e (by simpa using he) hb;simp [ih e.on hlt (by omega)]
      rw [hr] at hmem;cases hmem
   have hN:ops.toList.length=ops.size:=by simp
   have h1:RelF n g (frOf ops.toList vals σ0 ops.toList.length) a:=by
    refine⟨h.slots.size,h.slots.defers,fun t v hv=>h.slots.slot t v ?_⟩;rw [look_frS (j:=ops.size) ops.size (fun i hi _=>by simp [all i hi,hi]),Nat.min_self];rw [hN] at hv;exact hv
   have h2:stS ks sts (fun i=>L.getD i false) ops.size=sts ops.toList.length:=by
    rw [stS_eq (j:=ops.size) ops.size (fun i hi hne hne2=> ?_) (fun i hi hne=> ?_) (fun i hi _=>by simp [all i hi,hi]),Nat.min_self,hN]
    ·have hk:ks[i]?=some (ks[i]'(by omega)):=List.getElem?_eq_getElem _;have:=(hs i (by omega) ops[i] _ (by simp [hi]) hk).2;generalize ks[i]'(by omega)=k at*;cases k with
     |free=>exact this.2
     |read=>exact this.2
     |write=>exact absurd hk hne
     |new=>exact absurd hk hne2
     |peek=>exact this.2
    ·obtain⟨its,h1,_⟩:=(hs i (by omega) ops[i] .new (by simp [hi]) hne).2;rw [newI_eq h1];exact h1
   exact hQ g a w h.ext h1 (by rw [←h2];exact h.world)
  intro fuel;induction fuel with
  |zero=>
   intro L g a w h hf;have hr:Region.ready .any ops L=[]:=by
    unfold Region.ready;rw [List.filter_eq_nil_iff];intro i hi;rw [List.mem_range] at hi;have hlt:i<L.size:=by rw [h.size];exact hi
    have:=List.countP_eq_zero.1 hf L[i] (by simp);simp [Array.getD_eq_getD_getElem?,Array.getElem?_eq_getElem hlt,this]
   exact⟨hr,done L g a w h hr⟩
  |succ fuel ih=>
   intro L g a w h hf;refine⟨fun hr=>done L g a w h hr,fun j hj=>inv_step hks hok hB hs h hj fun g' a' w' h'=>ih _ g' a' w' h' ?_⟩;have hj':=hj;unfold Region.ready at hj';rw [List.mem_filter,List.mem_range] at hj';obtain⟨hjn,hj2⟩:=hj';simp only [Bool.and_eq_true,Bool.not_eq_true'] at hj2;have hlt:j<L.size:=by rw [h.size];exact hjn
   have hjL:L[j]=false:=by
    have:=hj2.1;simpa [Array.getD_eq_getD_getElem?,Array.getElem?_eq_getElem hlt] using this
   have hset:(L.setIfInBounds j true).toList=L.toList.set j true:=by simp
   rw [hset,List.countP_set (by simpa using hlt)];simp [hjL,hf]
theorem awp_anyQ {id:Nat} {l:List Oper} {ks:List Kd} {σ:Fr} {st:List Item} {Q:Exit→Fr→List Item→Prop} (hm:P.follows .mixedOrders=true)
  (B:List Item) (hp:st.Perm (B++A)) (hd: ∀ K,Drv P n l.toArray K A (fun σ' B'=>Q .normal σ' (B'++A)) 0 l ks σ B) (hok:orderP l.toArray ks=true) (hB:noPeek ks=true∨B≠[]):AWP P n (.region id l.toArray true) σ st Q:=by
  intro F g a w hf hw0;have hw:RelW g (B++(A++F)) w:=by rw [←List.append_assoc];exact hw0.perm (hp.append_right F)
  refine wp_region_any hm ?_;obtain⟨vals,sts,h0,hks,hs,hq⟩:=(Drv.steps (P:=P) (n:=n) (ops:=l.toArray) (K:=g.next) (A:=A) (Q:=fun σ' B'=>Q .normal σ' (B'++A)) l [] ks [] (fun _=> .val undef) (fun _=>B) σ l ks rfl rfl rfl (fun i hi=>by simp at hi) (hd g.next))
  have hbump:g.ext {g with next:=g.next+l.length}:=⟨⟨rfl,rfl,fun _ _ _ h=>h,fun _ _ h=>h,by simp⟩,fun _ _=>rfl⟩
  have hN:l.toArray.toList=l:=by simp
  have hfr: ∀ m,frS l vals σ (fun i=>(Array.replicate l.toArray.size false).getD i false) m=σ:=by
   intro m;induction m with
   |zero=>rfl
   |succ m ih=>
    simp only [frS];rw [if_neg,ih];simp only [Array.getD_eq_getD_getElem?,Array.getElem?_replicate];split<;>simp
  have hst: ∀ m,stS ks sts (fun i=>(Array.replicate l.toArray.size false).getD i false) m=sts 0:=by
   intro m;induction m with
   |zero=>rfl
   |succ m ih=>
    have hno:(Array.replicate l.toArray.size false).getD m false=false:=by
     simp only [Array.getD_eq_getD_getElem?,Array.getElem?_replicate];split<;>simp
    simp only [stS];rw [if_neg (by rw [hno];simp),if_neg (by rw [hno];simp),ih]
  refine any_run (P:=P) (n:=n) (ops:=l.toArray) (K:=g.next) (A:=A) (ks:=ks) (vals:=vals) (sts:=sts) (σ0:=σ) (F:=F) (g0:=g) (by rw [hN];exact hks) hok (by rw [h0];exact hB) (by rw [hN];exact hs) ?_ l.toArray.size _ {g with next:=g.next+l.length} a _ ?_ ?_
  ·intro g' a' w' hx hf' hw';rw [hN] at hf' hw';exact⟨g',_,_,hx,hf',by rw [List.append_assoc];exact hw',hq⟩
  ·refine⟨by simp,?_,?_,?_,hbump,?_,by simp,Nat.le_refl _⟩
   ·intro j o ho hS;simp only [Array.getD_eq_getD_getElem?,Array.getElem?_replicate] at hS;split at hS<;>simp at hS
   ·rw [hN,hfr];exact⟨hf.size,hf.defers,(hf.mono hbump.le).slot⟩
   ·rw [hst,h0];exact (hw.drew).evolve (row:=none) hbump.le ⟨rfl,rfl,rfl,Nat.le_refl _,fun _ _ _=>rfl⟩ (fun b hb=>by cases hb) (fun b o v hv=> .inl ⟨hv,by simp⟩) (fun it _ b _=>⟨by simp,fun _=>rfl⟩) (fun i hi=>hw.fresh i (by simp at hi;omega))
   ·intro i hi _;exact hw.fresh _ (Nat.le_add_right _ _)
  ·simp [List.countP_replicate]
theorem awp_any {id:Nat} {l:List Oper} {ks:List Kd} {σ:Fr} {st:List Item} {Q:Exit→Fr→List Item→Prop} (hm:P.follows .mixedOrders=true)
  (B:List Item) (hp:st.Perm (B++A)) (hd: ∀ K,Drv P n l.toArray K A (fun σ' B'=>Q .normal σ' (B'++A)) 0 l ks σ B) (hok:orderOk l.toArray ks=true):AWP P n (.region id l.toArray true) σ st Q:=by
  unfold orderOk at hok;rw [Bool.and_eq_true] at hok;exact awp_anyQ hm B hp hd hok.1 (.inl hok.2)
theorem awp_any0 {id:Nat} {l:List Oper} {ks:List Kd} {σ:Fr} {st:List Item} {Q:Exit→Fr→List Item→Prop} (hm:P.follows .mixedOrders=true)
  (hd: ∀ K,Drv P n l.toArray K st (fun σ' B'=>B'=[]∧Q .normal σ' st) 0 l ks σ []) (hok:orderOk l.toArray ks=true):AWP P n (.region id l.toArray true) σ st Q:=by
  have hmono: ∀ (K:Nat) (Q1 Q2:Fr→List Item→Prop),(∀ σ' B',Q1 σ' B'→Q2 σ' B')→ ∀ (l1:List Oper) (ks:List Kd) (i:Nat) (σ:Fr) (B:List Item),Drv P n l.toArray K st Q1 i l1 ks σ B→Drv P n l.toArray K st Q2 i l1 ks σ B:=by
   intro K Q1 Q2 hq l1;induction l1 with
   |nil=>intro ks i σ B h;cases ks with
    |nil=>exact hq _ _ h
    |cons k ks=>exact h
   |cons o l1 ih=>intro ks i σ B h;cases ks with
    |nil=>exact h
    |cons k ks=>cases k with
     |free=>obtain⟨v,h1,h2,h3⟩:=h;exact⟨v,h1,h2,ih _ _ _ _ h3⟩
     |read=>obtain⟨v,h1,h2,h3⟩:=h;exact⟨v,h1,h2,ih _ _ _ _ h3⟩
     |write=>obtain⟨v,st',h1,h2,h3⟩:=h;exact⟨v,st',h1,h2,ih _ _ _ _ h3⟩
     |new=>obtain⟨v,its,h1,h2,h3⟩:=h;exact⟨v,its,h1,h2,ih _ _ _ _ h3⟩
     |peek=>obtain⟨v,N,c,h0,h1,h2,h3⟩:=h;exact⟨v,N,c,h0,h1,h2,ih _ _ _ _ h3⟩
  exact awp_any hm [] (by simp) (fun K=>hmono K _ _ (fun σ' B' ⟨h1,h2⟩=>by subst h1;exact h2) _ _ _ _ _ (hd K)) hok
section drv
variable {Q:Fr→List Item→Prop} {i:Nat} {rest:List Oper} {ks:List Kd} {σ:Fr} {st:List Item} {op:Op} {ty:TypeId} {pos:String} {after:Array Edge}
theorem dr_nil (h:Q σ st):Drv P n ops K A Q i [] [] σ st:=h
theorem dst_ok {d:Nat} {gd:Option (Nat×Bool)} (hd:Nat.blt d n=true):dstOk n ⟨some d,op,ty,pos,after,gd⟩:=fun x hx=>by cases hx;exact blt_lt hd
theorem dr_p {d:Nat} {v:AV} (hy: ∀ i,Yields P ⟨some d,op,ty,pos,after,none⟩ σ A i v A) (hd:Nat.blt d n=true) (h:Drv P n ops K A Q (i+1) rest ks ((d,v)::σ) st):Drv P n ops K A Q i (⟨some d,op,ty,pos,after,none⟩::rest) (.free::ks) σ st:=
  ⟨v,dst_ok hd,(hy _).plain rfl,h⟩
theorem dr_g {d:Nat} {v:AV} {j:Nat} {pol:Bool} {oj:Oper} {t:Tmp} {gv:AV} {c:Prop} (hj:ops[j]?=some oj) (hdj:oj.dst=some t) (hl:look σ t=some gv) (hs:Says gv pol c)
  (hy:c→ ∀ i,Yields P ⟨some d,op,ty,pos,after,some (j,pol)⟩ σ A i v A) (hd:Nat.blt d n=true) (h:Drv P n ops K A Q (i+1) rest ks ((d,.opt c v)::σ) st):Drv P n ops K A Q i (⟨some d,op,ty,pos,after,some (j,pol)⟩::rest) (.free::ks) σ st:=
  ⟨_,dst_ok hd,Yields.guarded rfl hj hdj hl hs (fun hc=>hy hc _),h⟩
theorem dr_r {d:Nat} {v:AV} (hy: ∀ i,Yields P ⟨some d,op,ty,pos,after,none⟩ σ st i v st) (hd:Nat.blt d n=true) (h:Drv P n ops K A Q (i+1) rest ks ((d,v)::σ) st):Drv P n ops K A Q i (⟨some d,op,ty,pos,after,none⟩::rest) (.read::ks) σ st:=
  ⟨v,dst_ok hd,(hy _).plain rfl,h⟩
theorem dr_s {v:AV} {st':List Item} (hy: ∀ i,Yields P ⟨none,op,ty,pos,after,none⟩ σ st i v st') (h:Drv P n ops K A Q (i+1) rest ks σ st'):Drv P n ops K A Q i (⟨none,op,ty,pos,after,none⟩::rest) (.write::ks) σ st:=
  ⟨v,st',fun x hx=>by (cases hx),(hy _).plain rfl,h⟩
theorem dr_n {d:Nat} {v:Nat→AV} {st':Nat→List Item} (hy: ∀ i,Yields P ⟨some d,op,ty,pos,after,none⟩ σ st i (v i) (st' i)) (hd:Nat.blt d n=true) (h: ∀ j,Drv P n ops K A Q (i+1) rest ks ((d,v j)::σ) (st' j)):Drv P n ops K A Q i (⟨some d,op,ty,pos,after,none⟩::rest) (.write::ks) σ st:=
  ⟨v (K+i),st' (K+i),dst_ok hd,(hy _).plain rfl,h _⟩
theorem dr_new {d:Nat} {v:Nat→AV} {it:Nat→Item} (hy: ∀ st0 i,Yields P ⟨some d,op,ty,pos,after,none⟩ σ st0 i (v i) (it i::st0)) (hd:Nat.blt d n=true) (h: ∀ j,Drv P n ops K A Q (i+1) rest ks ((d,v j)::σ) (it j::st)):Drv P n ops K A Q i (⟨some d,op,ty,pos,after,none⟩::rest) (.new::ks) σ st:=
  ⟨v (K+i),[it (K+i)],dst_ok hd,fun st0=>(hy st0 _).plain rfl,h _⟩
theorem dr_k {d:Nat} {v:AV} {c:Item} (hl:st.getLast?=some c) (hy: ∀ i,Yields P ⟨some d,op,ty,pos,after,none⟩ σ [c] i v [c]) (hd:Nat.blt d n=true) (h:Drv P n ops K A Q (i+1) rest ks ((d,v)::σ) st):Drv P n ops K A Q i (⟨some d,op,ty,pos,after,none⟩::rest) (.peek::ks) σ st:=by
  have hne:st≠[]:=by rintro rfl;cases hl
  have e1:st.getLast hne=c:=by
   rw [List.getLast?_eq_some_getLast hne] at hl;exact Option.some.inj hl
  refine⟨v,st.dropLast,c,?_,dst_ok hd,(hy _).plain rfl,h⟩;have e2:=List.dropLast_concat_getLast hne;rw [e1] at e2;exact e2.symm
theorem dr_append {d:Nat} {T E sz by_:Nat} {x y:Operand} {t:Option Nat} {av:AV} {xs ys:List (List AV)} {zs:List Value} [ht:SliceT P T E sz by_] [hz:ZeroT P E zs] [hr:Rd av sz ys] (hzl:zs.length=sz)
  (hx:Ev σ x (.grow sz t xs)) (hy:Ev σ y av) (hb:xs.length+ys.length≤1073741824) (hd:Nat.blt d n=true) (h: ∀ t',Drv P n ops K A Q (i+1) rest ks ((d,.grow sz t' (xs++ys))::σ) (.tail t'::st)):
  Drv P n ops K A Q i (⟨some d,.call {callee:= .builtin .append,args:= #[x,y],argTypes:= #[T,T]},ty,pos,after,none⟩::rest) (.write::ks) σ (.tail t::st):=
  ⟨_,_,dst_ok hd,(y_append hzl hx hy hb).plain rfl,h _⟩
end drv
end any
end Go.Aw
namespace Go.Aw
open Go.RowKit (Below)
def g0 (W:World):Ghost:={B:=W.heap.size,w0:=W,com:=fun b o=>W.cell? ⟨b,o,none⟩,loc:=fun _=>none,next:=0}
theorem relW0 (W:World):RelW (g0 W) [] W:=⟨fun _ _ _ h=>h,fun _ _=>rfl,Nat.le_refl _,Below.refl _ _,Nat.le_refl _,fun _ h=>by simp at h,by simp⟩
theorem law_calls {P:Program} {f:FuncId} {avs:List AV} {args:Array Value} {W:World} (h:ACalls P f avs [] (fun v _=>v= .bool true)) (hv:holdsL (g0 W) avs args.toList):
  Calls P f args W fun e W'=>e= .returned (.bool true)∧Below W.heap.size W W':=by
  have:=h.2 [] (g0 W) W args.toList (relW0 W) hv;rw [Array.toArray_toList] at this;exact this.mono fun e W' ⟨u,v,st',g',he,hx,hw',hh,hq⟩=>by
   subst hq;rw [AV.val_holds] at hh;subst hh;refine⟨he,?_⟩;have hb:=hw'.below;rw [hx.le.B,hx.le.w0] at hb;exact hb
def RdT (P:Program) (T:TypeId) {α:Type} (f:α→List AV) (ok:α→Prop):Prop:=
  ∀ (H:Type) (enc:TypeId×Value→H) (W:World) (fuel:Nat) (cs:List Value) (x:DataW H×List MemPlace),DataW.trod enc P W 0 (fun _=>true) true fuel T cs=some x→
   ∃ a,ok a∧holdsL (g0 W) (f a) cs∧ ∀ u∈cs,u.oneCell'=true
theorem RdT.i64 {P:Program} {T:TypeId} (h:P.underlying T=some (.int .i64)):RdT P T (fun n:Int=>[.int n]) (fun n=> -9223372036854775808≤n∧n≤9223372036854775807):=by
  intro H enc W fuel cs x hx;obtain⟨n,rfl,_,hw⟩:=DataW.trod_int h hx;exact⟨n,by simpa [Lit.wf,IntKind.min,IntKind.max,IntKind.signed,IntKind.bits] using hw,⟨AV.val_self _,trivial⟩,by simp;rfl⟩
theorem RdT.u8 {P:Program} {T:TypeId} (h:P.underlying T=some (.int .u8)):RdT P T (fun n:Int=>[.val (.int .u8 n)]) (fun n=>0≤n∧n≤255):=by
  intro H enc W fuel cs x hx;obtain⟨n,rfl,_,hw⟩:=DataW.trod_int h hx;exact⟨n,by simpa [Lit.wf,IntKind.min,IntKind.max,IntKind.signed,IntKind.bits] using hw,⟨AV.val_self _,trivial⟩,by simp;rfl⟩
theorem RdT.bool {P:Program} {T:TypeId} (h:P.underlying T=some .bool):RdT P T (fun b:Bool=>[.bool b]) (fun _=>True):=by
  intro H enc W fuel cs x hx;obtain⟨n,rfl,_⟩:=DataW.trod_bool h hx;exact⟨n,trivial,⟨AV.val_self _,trivial⟩,by simp;rfl⟩
theorem RdT.string {P:Program} {T:TypeId} (h:P.underlying T=some .string):RdT P T (fun s:ByteArray=>[.val (.string s)]) (fun _=>True):=by
  intro H enc W fuel cs x hx;obtain⟨n,rfl,_⟩:=DataW.trod_string h hx;exact⟨n,trivial,⟨AV.val_self _,trivial⟩,by simp;rfl⟩
theorem RdT.map {P:Program} {T:TypeId} {α β:Type} {f:α→List AV} {ok:α→Prop} (h:RdT P T f ok) (φ:α→β) {f':β→List AV} {ok':β→Prop} (hf: ∀ a,f' (φ a)=f a) (hok: ∀ a,ok a→ok' (φ a)):RdT P T f' ok':=by
  intro H enc W fuel cs x hx;obtain⟨a,h1,h2,h3⟩:=h H enc W fuel cs x hx;exact⟨φ a,hok a h1,by rw [hf];exact h2,h3⟩
theorem mapM_range_some {β:Type} {n:Nat} {p:Nat→Option β} {cs:List β} (h:(List.range n).mapM p=some cs):cs.length=n∧ ∀ i,i<n→p i=cs[i]?:=by
  have key: ∀ (l:List Nat) (cs:List β),l.mapM p=some cs→cs.length=l.length∧ ∀ (i x:Nat),l[i]?=some x→p x=cs[i]?:=by
   intro l;induction l with
   |nil=>intro cs h;simp at h;subst h;simp
   |cons a l ih=>
    intro cs h;rw [List.mapM_cons] at h;cases hp:p a with
    |none=>simp [hp] at h
    |some b=>
     cases hr:l.mapM p with
     |none=>simp [hp,hr] at h
     |some r=>
      simp [hp,hr] at h;subst h;obtain⟨h1,h2⟩:=ih r hr;refine⟨by simp [h1],fun i x hx=> ?_⟩;cases i with
      |zero=>simp at hx;subst hx;simpa using hp
      |succ i=>simpa using h2 i x (by simpa using hx)
  obtain⟨h1,h2⟩:=key _ _ h;exact⟨by simpa using h1,fun i hi=>h2 i i (by simp [hi])⟩
theorem RdT.slice {P:Program} {T E sz by_:Nat} {α:Type} {f:α→List AV} {ok:α→Prop} (h:RdT P E f ok) (ht:SliceT P T E sz by_):RdT P T (fun l:List α=>[.sl sz (l.map f)]) (fun l=> ∀ a∈l,ok a):=by
  intro H enc W fuel cs x hx;have hcell:P.cellsOf E=sz:=by
   have:=ht.hsize;unfold sizeB at this;unfold Program.cellsOf;rw [this];rfl
  rcases Deep.open_slice ht.und hx with ⟨rfl,_⟩|⟨a,len,cap,m,n,D,Pl,rfl,_,hl,hm,hmm,_,hel⟩
  ·exact⟨[],by simp,⟨(inferInstance:Rd (.val (.slice none 0 0)) sz []).imp _ _ (AV.val_self _),trivial⟩,by simp;rfl⟩
  ·simp only [if_true] at hmm;rw [hcell] at hel;have key: ∀ k,k≤len→ ∃ l:List α,l.length=k∧(∀ a∈l,ok a)∧(∀ x∈l.map f,x.length=sz)∧(0<k→ ∃ b o,a=⟨b,o,none⟩∧comRow (g0 W) b (o+(len - k)*sz) (l.map f).flatten):=by
    intro k;induction k with
    |zero=>intro _;exact⟨[],rfl,by simp,by simp,by omega⟩
    |succ k ih=>
     intro hk;obtain⟨l,h1,h2,h3,h4⟩:=ih (by omega);obtain⟨cs',hc,htr⟩:=hel (len - (k+1)) (by omega);obtain⟨a0,k1,k2,k3⟩:=h H enc W n cs' _ htr;unfold World.cells? at hc;rw [if_pos (Nat.zero_le _)] at hc;obtain⟨c1,c2⟩:=mapM_range_some hc;have hlen:(f a0).length=sz:=by rw [k2.length,c1]
     have hsp: ∃ b o,a=⟨b,o,none⟩:=by
      obtain⟨b,o,s⟩:=a;refine⟨b,o,?_⟩;obtain⟨cs0,hc0,_⟩:=hel 0 (by omega);unfold World.cells? at hc0;rw [if_pos (Nat.zero_le _)] at hc0;obtain⟨e1,e2⟩:=mapM_range_some hc0;have:=e2 0 ht.pos;rw [List.getElem?_eq_getElem (by have:=ht.pos;omega)] at this;simp only [Nat.zero_mul,Addr.add,if_pos] at this;cases s with
      |none=>rfl
      |some s=>
       unfold World.cell? at this;split at this<;>simp at this
     obtain⟨b,o,rfl⟩:=hsp;refine⟨a0::l,by simp [h1],fun x hx=>(List.mem_cons.1 hx).elim (fun e=>e ▸ k1) (h2 x),fun x hx=> ?_,fun _=>⟨b,o,rfl,?_⟩⟩
     ·rw [List.map_cons] at hx;exact (List.mem_cons.1 hx).elim (fun e=>e ▸ hlen) (h3 x)
     ·rw [List.map_cons,List.flatten_cons];refine comRow.append (comRow.of k2 k3 (fun i v hv=> ?_)) ?_
      ·have hi:i<sz:=by
        rcases Nat.lt_or_ge i cs'.length with hh|hh
        ·omega
        ·rw [List.getElem?_eq_none hh] at hv;cases hv
       have:=c2 i hi;rw [hv] at this;simp only [Addr.add_mk] at this;exact this
      ·rw [hlen];rcases Nat.eq_zero_or_pos k with hk0|hk0
       ·subst hk0;have:l=[]:=List.eq_nil_of_length_eq_zero h1;subst this;exact trivial
       ·obtain⟨b',o',e,hr⟩:=h4 hk0;cases e;have e2:o+(len - (k+1))*sz+sz=o+(len - k)*sz:=by
         rw [show len - k=(len - (k+1))+1 by omega,Nat.add_mul,Nat.one_mul];omega
        rw [e2];exact hr
   obtain⟨l,h1,h2,h3,h4⟩:=key len (Nat.le_refl _);refine⟨l,h2,⟨?_,trivial⟩,by simp;rfl⟩;rw [AV.sl_holds];refine⟨some a,cap,by simp [h1],by simp [h1,hl],h3,fun hne=> ?_⟩;have hpos:0<len:=by
    rcases Nat.eq_zero_or_pos len with h0|h0
    ·rw [h0] at h1;have:l=[]:=List.eq_nil_of_length_eq_zero h1;subst this;exact absurd rfl hne
    ·exact h0
   obtain⟨b,o,rfl,hr⟩:=h4 hpos;exact⟨b,o,rfl,by simpa using hr⟩
inductive RdS (P:Program):List Field→Nat→(α:Type)→(α→List AV)→(α→Prop)→Nat→Prop
  |nil {o:Nat}:RdS P [] o Unit (fun _=>[]) (fun _=>True) o
  |cons {fl:Field} {fs:List Field} {o s e:Nat} {α β:Type} {f:α→List AV} {ok:α→Prop} {F:β→List AV} {ok':β→Prop} (h:RdT P fl.type f ok) (ho:fl.offset=o) (hs:P.cellsOf fl.type=s) (r:RdS P fs (o+s) β F ok' e):
   RdS P (fl::fs) o (α×β) (fun x=>f x.1++F x.2) (fun x=>ok x.1∧ok' x.2) e
theorem RdS.read {P:Program} {fs:List Field} {o e:Nat} {α:Type} {F:α→List AV} {ok:α→Prop} (h:RdS P fs o α F ok e): ∀ {H:Type} {enc:TypeId×Value→H} {W:World} {n:Nat} {cs:List Value},cs.length=e→
  (∀ (i:Nat) (fl:Field),fs[i]?=some fl→ ∃ x,DataW.trod enc P W 0 (fun _=>true) true n fl.type ((cs.drop fl.offset).take (P.cellsOf fl.type))=some x)→ ∃ a,ok a∧holdsL (g0 W) (F a) (cs.drop o)∧ ∀ u∈cs.drop o,u.oneCell'=true:=by
  induction h with
  |nil=>intro H enc W n cs hl _;exact⟨(),trivial,by rw [List.drop_of_length_le (by omega)];trivial,by rw [List.drop_of_length_le (by omega)];simp⟩
  | @cons fl fs o s e α β f ok F ok' h ho hs _ ih=>
   intro H enc W n cs hl hf;obtain⟨x,hx⟩:=hf 0 fl rfl;rw [ho,hs] at hx;obtain⟨a,k1,k2,k3⟩:=h H enc W n _ _ hx;obtain⟨b,m1,m2,m3⟩:=ih (enc:=enc) (W:=W) (n:=n) hl (fun i fl' hfl=>hf (i+1) fl' (by simpa using hfl));have hsplit:cs.drop o=(cs.drop o).take s++cs.drop (o+s):=by rw [←List.drop_drop,List.take_append_drop]
   refine⟨(a,b),⟨k1,m1⟩,?_,?_⟩
   ·rw [hsplit];exact k2.append m2
   ·rw [hsplit];exact fun u hu=>(List.mem_append.1 hu).elim (k3 u) (m3 u)
theorem RdT.struct {P:Program} {T e:Nat} {fs:Array Field} {α:Type} {F:α→List AV} {ok:α→Prop} (hu:P.underlying T=some (.struct fs)) (h:RdS P fs.toList 0 α F ok e) (he:P.cellsOf T=e):RdT P T F ok:=by
  intro H enc W fuel cs x hx;obtain⟨xs,n,_,_,hl,hlen,hf⟩:=DataW.trod_struct hu hx;have:=h.read (enc:=enc) (W:=W) (n:=n) (cs:=cs) (by rw [hl,he]) (fun i fl hfl=>by
   have h1:=hf i fl (by simpa using hfl);have hi:i<fs.size:=by
    rcases Nat.lt_or_ge i fs.toList.length with h|h
    ·simpa using h
    ·rw [List.getElem?_eq_none h] at hfl;cases hfl
   exact⟨xs[i]'(by omega),by rw [h1,List.getElem?_eq_getElem (by omega)]⟩)
  simpa using this
theorem arg_scalar {P:Program} {T:TypeId} {α:Type} {F:α→AV} {ok:α→Prop} (h:RdT P T (fun a=>[F a]) ok) (ha:isAggB P T=some false) {H:Type} {enc:TypeId×Value→H} {W:World} {base:Nat} {v:Value} {d:DataW H} {ps:List MemPlace}
  (hv:Value.okWide P W .any base T v) (hr:DataW.Trod enc P W 0 (fun _=>true) true T v d ps): ∃ a,ok a∧(F a).holds (g0 W) v:=by
  obtain⟨fuel,hf⟩:=hr;obtain⟨a,k1,k2,k3⟩:=h H enc W fuel _ _ hf;have hone:v.cells= #[v]:=by
   cases v with
   |agg cs=>
    exfalso;unfold isAggB at ha;cases hu:P.underlying T with
    |none=>simp [hu] at ha
    |some dd=>cases dd<;>simp [hu] at ha<;>simp [Value.okWide,hu,Cell.okWide,Cell.ok] at hv
   |_=>rfl
  rw [hone] at k2;exact⟨a,k1,k2.1⟩
theorem arg_agg {P:Program} {T:TypeId} {α:Type} {f:α→List AV} {ok:α→Prop} (h:RdT P T f ok) (ha:isAggB P T=some true) {H:Type} {enc:TypeId×Value→H} {W:World} {base:Nat} {v:Value} {d:DataW H} {ps:List MemPlace}
  (hv:Value.okWide P W .any base T v) (hr:DataW.Trod enc P W 0 (fun _=>true) true T v d ps): ∃ a,ok a∧(AV.agg (f a)).holds (g0 W) v:=by
  obtain⟨fuel,hf⟩:=hr;obtain⟨a,k1,k2,k3⟩:=h H enc W fuel _ _ hf;have hagg: ∃ cs,v= .agg cs:=by
   unfold isAggB at ha;cases hu:P.underlying T with
   |none=>simp [hu] at ha
   |some dd=>cases dd<;>simp [hu] at ha<;>(simp only [Value.okWide,hu] at hv;obtain⟨cs,e,_⟩:=hv;exact⟨cs,e⟩)
  obtain⟨cs,rfl⟩:=hagg;exact⟨a,k1,AV.agg_holds.2 ⟨cs.toList,by simp,k2,k3⟩⟩
theorem trodAll_below {P:Program} {H:Type} {enc:TypeId×Value→H} (hl:laidOutB P=true) {W W':World} (hb:Below W.heap.size W W'): ∀ {ts:List TypeId} {vs:List Value} {ds:List (DataW H)} {ps:List MemPlace},(∀ t∈ts,P.readableRec t=true∧t<P.types.size)→
  DataW.TrodAll enc P W 0 (fun _=>true) true ts vs ds ps→(∀ x∈ps,x.block<W.heap.size)→DataW.TrodAll enc P W' 0 (fun b=>decide (b<W.heap.size)) true ts vs ds ps:=by
  intro ts;induction ts with
  |nil=>
   intro vs ds ps _ h _;cases vs<;>cases ds<;>simp [DataW.TrodAll] at h ⊢ <;>exact h
  |cons t ts ih=>
   intro vs ds ps ht h hlt;cases vs with
   |nil=>simp [DataW.TrodAll] at h
   |cons v vs=>
    cases ds with
    |nil=>simp [DataW.TrodAll] at h
    |cons d ds=>
     simp only [DataW.TrodAll] at h ⊢;obtain⟨p,q,h1,h2,rfl⟩:=h;obtain⟨r1,r2⟩:=ht t (by simp);exact⟨p,q,RowKit.Below.trod hl r1 r2 h1 hb (fun x hx=>hlt x (by simp [hx])),ih (fun t' ht'=>ht t' (by simp [ht'])) h2 (fun x hx=>hlt x (by simp [hx])),rfl⟩
theorem law_post {P:Program} {H:Type} {enc:TypeId×Value→H} {fn:Func} {s:ChangeSpec} {TB:TypeId} {W W':World} {args:Array Value} {ds gs:List (DataW H)} {before:List MemPlace} (hl:laidOutB P=true) (ht: ∀ t∈fn.params.toList,P.readableRec t=true∧t<P.types.size)
  (hres:fn.resultTypes= #[TB]) (hB:P.underlying TB=some .bool) (hvars:s.vars=[]) (hfn: ∀ ds':List (DataW H),ds'.length=fn.params.toList.length→s.fn H (ds'++[])={results:=[.lit (.bool true)],args:=ds'})
  (hW:DataW.Whole enc P fn.params.toList s.vars false W args.toList ds gs before) (hb:Below W.heap.size W W'):s.post enc P fn false true false false W args (.bool true) W':=by
  have hW0:=hW;obtain⟨p,q,hA,hV,rfl,hfz,hnd⟩:=hW;have hlt:=hW0.lt;rw [hvars] at hV;cases gs with
  |cons x gs=>simp [DataW.TrodVars] at hV
  |nil=>
   have hq:q=[]:=by simpa [DataW.TrodVars] using hV
   subst hq;have hlen:ds.length=fn.params.toList.length:=by
    clear hW0 hlt hfz hnd;have key: ∀ (ts:List TypeId) (vs:List Value) (ds:List (DataW H)) (p:List MemPlace),DataW.TrodAll enc P W 0 (fun _=>true) true ts vs ds p→ds.length=ts.length:=by
     intro ts;induction ts with
     |nil=>intro vs ds p h;cases vs<;>cases ds<;>simp [DataW.TrodAll] at h ⊢
     |cons t ts ih=>
      intro vs ds p h;cases vs with
      |nil=>simp [DataW.TrodAll] at h
      |cons v vs=>
       cases ds with
       |nil=>simp [DataW.TrodAll] at h
       |cons d ds=>
        simp only [DataW.TrodAll] at h;obtain⟨_,_,_,h2,_⟩:=h;simp [ih _ _ _ h2]
    exact key _ _ _ _ hA
   have e:=hfn ds hlen;refine⟨ds,[],p++[],[],p,[],hW0,?_,?_,?_,?_,fun h=>by cases h⟩
   ·rw [e,hres];exact ChangeShapes.trodAll_mk1 (RowKit.shut_bool hB _)
   ·rw [e];exact trodAll_below hl hb ht hA (fun x hx=>hlt x (by simp [hx]))
   ·rw [hvars,e];simp [DataW.TrodVars]
   ·exact hb.frame _
end Go.Aw
namespace Go.Aw
theorem ImpL.refl: ∀ (vs:List AV),ImpL vs vs
  | []=> .nil
  |v::vs=> .cons (AV.Imp.refl v) (ImpL.refl vs)
theorem ACalls.then {P:Program} {f:FuncId} {args:List AV} {st:List Item} {v:AV} {Q:AV→List Item→Prop} (h:ACalls P f args st (fun v' s=>v'=v∧s=st)) (hq:Q v st):ACalls P f args st Q:=
  h.mono fun v' st' ⟨a,b⟩=>by rw [a,b];exact hq
inductive ItImp:List Item→List Item→Prop
  |nil:ItImp [] []
  |cells {i cs cs' st st'} (h:ImpL cs cs') (r:ItImp st st'):ItImp (.cells i cs::st) (.cells i cs'::st')
  |same {it st st'} (r:ItImp st st'):ItImp (it::st) (it::st')
theorem ItImp.refl: ∀ (st:List Item),ItImp st st
  | []=> .nil
  |_::st=> .same (ItImp.refl st)
theorem ItImp.blks {g:Ghost} {st st':List Item} (h:ItImp st st'):st'.filterMap (Item.blk g)=st.filterMap (Item.blk g):=by
  induction h with
  |nil=>rfl
  |cells h r ih=>simp only [List.filterMap_cons,Item.blk,Item.id?];rw [ih]
  |same r ih=>simp only [List.filterMap_cons];rw [ih]
theorem ItImp.ok {g:Ghost} {w:World} {st st':List Item} (h:ItImp st st'):(∀ it∈st,it.ok g w)→ ∀ it∈st',it.ok g w:=by
  induction h with
  |nil=>exact fun h=>h
  | @cells i cs cs' st st' hc r ih=>
   intro h it hm;rcases List.mem_cons.1 hm with rfl|hm
   ·obtain⟨b,p,s,vs,E,h1,h2,h3,h4⟩:=h _ (List.mem_cons_self ..);exact⟨b,p,s,vs,E,h1,h2,hc.holdsL h3,h4⟩
   ·exact ih (fun x hx=>h x (List.mem_cons_of_mem _ hx)) it hm
  |same r ih=>
   intro h it hm;rcases List.mem_cons.1 hm with rfl|hm
   ·exact h _ (List.mem_cons_self ..)
   ·exact ih (fun x hx=>h x (List.mem_cons_of_mem _ hx)) it hm
theorem ItImp.relW {st st':List Item} (h:ItImp st st') {g:Ghost} {w:World} (hw:RelW g st w):RelW g st' w:=
  ⟨hw.com,hw.fresh,hw.hB,hw.below,hw.drawn,h.ok hw.items,by rw [h.blks];exact hw.nodup⟩
section ops
variable {P:Program} {n:Nat} {ops:Array Oper} {rest:List Oper} {σ:Fr} {st:List Item} {K:Fr→List Item→Prop} {ty:TypeId} {pos:String} {after:Array Edge}
theorem st_appendT {d:Nat} {T E sz by_:Nat} {x y:Operand} {t:Option Nat} {av:AV} {xs ys:List (List AV)} {zs:List Value} {st1:List Item} [ht:SliceT P T E sz by_] [hz:ZeroT P E zs] [hr:Rd av sz ys] (hzl:zs.length=sz)
  (hx:Ev σ x (.grow sz t xs)) (hy:Ev σ y av) (hT:Take st (.tail t) st1) (hb:xs.length+ys.length≤1073741824) (hd:Nat.blt d n=true) (h: ∀ t',AOps P n ops rest ((d,.grow sz t' (xs++ys))::σ) (.tail t'::st1) K):
  AOps P n ops (⟨some d,.call {callee:= .builtin .append,args:= #[x,y],argTypes:= #[T,T]},ty,pos,after,none⟩::rest) σ st K:=
  aops_weak (Weak.perm hT.perm) (st_append hzl hx hy hb hd h)
theorem st_append0 {d:Nat} {T E sz by_:Nat} {x y:Operand} {av:AV} {xs ys:List (List AV)} {zs:List Value} [ht:SliceT P T E sz by_] [hz:ZeroT P E zs] [hr:Rd av sz ys] (hzl:zs.length=sz)
  (hx:Ev σ x (.grow sz none xs)) (hy:Ev σ y av) (hb:xs.length+ys.length≤1073741824) (hd:Nat.blt d n=true) (h: ∀ t',AOps P n ops rest ((d,.grow sz t' (xs++ys))::σ) (.tail t'::st) K):
  AOps P n ops (⟨some d,.call {callee:= .builtin .append,args:= #[x,y],argTypes:= #[T,T]},ty,pos,after,none⟩::rest) σ st K:=
  aops_weak Weak.tail0 (st_append hzl hx hy hb hd h)
end ops
end Go.Aw
namespace Go.Aw
open Go.ChangeShapes
inductive ArgsR (P:Program):List TypeId→(α:Type)→(α→List AV)→(α→Prop)→Prop
  |nil:ArgsR P [] Unit (fun _=>[]) (fun _=>True)
  |scalar {T:TypeId} {ts:List TypeId} {α β:Type} {f:α→AV} {ok:α→Prop} {F:β→List AV} {ok':β→Prop} (h:RdT P T (fun a=>[f a]) ok) (ha:isAggB P T=some false) (r:ArgsR P ts β F ok'):
   ArgsR P (T::ts) (α×β) (fun x=>f x.1::F x.2) (fun x=>ok x.1∧ok' x.2)
  |agg {T:TypeId} {ts:List TypeId} {α β:Type} {f:α→List AV} {ok:α→Prop} {F:β→List AV} {ok':β→Prop} (h:RdT P T f ok) (ha:isAggB P T=some true) (r:ArgsR P ts β F ok'):
   ArgsR P (T::ts) (α×β) (fun x=> .agg (f x.1)::F x.2) (fun x=>ok x.1∧ok' x.2)
theorem ArgsR.read {P:Program} {ts:List TypeId} {α:Type} {F:α→List AV} {ok:α→Prop} (h:ArgsR P ts α F ok) {H:Type} {enc:TypeId×Value→H} {W:World} {base:Nat}:
  ∀ {vs:List Value} {ds:List (DataW H)} {ps:List MemPlace},(∀ (j:Nat) t v,ts[j]?=some t→vs[j]?=some v→Value.okWide P W .any base t v)→DataW.TrodAll enc P W 0 (fun _=>true) true ts vs ds ps→ ∃ a,ok a∧holdsL (g0 W) (F a) vs:=by
  induction h with
  |nil=>
   intro vs ds ps _ hA;obtain⟨rfl,_,_⟩:=trodAll_nil hA;exact⟨(),trivial,trivial⟩
  |scalar h ha r ih=>
   intro vs ds ps hv hA;obtain⟨v,vs',d,ds',p,q,rfl,rfl,rfl,h0,hr⟩:=trodAll_cons hA;obtain⟨a,k1,k2⟩:=arg_scalar h ha (hv 0 _ v rfl rfl) h0;obtain⟨b,m1,m2⟩:=ih (fun j t v ht hv'=>hv (j+1) t v (by simpa using ht) (by simpa using hv')) hr;exact⟨(a,b),⟨k1,m1⟩,k2,m2⟩
  |agg h ha r ih=>
   intro vs ds ps hv hA;obtain⟨v,vs',d,ds',p,q,rfl,rfl,rfl,h0,hr⟩:=trodAll_cons hA;obtain⟨a,k1,k2⟩:=arg_agg h ha (hv 0 _ v rfl rfl) h0;obtain⟨b,m1,m2⟩:=ih (fun j t v ht hv'=>hv (j+1) t v (by simpa using ht) (by simpa using hv')) hr;exact⟨(a,b),⟨k1,m1⟩,k2,m2⟩
theorem law_row {P:Program} {f:FuncId} {fn:Func} {s:ChangeSpec} {TB:TypeId} {α:Type} {F:α→List AV} {ok:α→Prop} {ts:List TypeId} (hts:fn.params.toList=ts) (hA:ArgsR P ts α F ok) (hlaw: ∀ a,ok a→ACalls P f (F a) [] (fun v st=>v= .bool true∧st=[]))
  (hl:laidOutB P=true) (ht:fn.params.toList.all (fun t=>P.readableRec t && decide (t<P.types.size))=true) (hres:fn.resultTypes= #[TB]) (hB:P.underlying TB=some .bool) (hvars:s.vars=[])
  {H:Type} {enc:TypeId×Value→H} (hfn: ∀ ds':List (DataW H),ds'.length=fn.params.toList.length→s.fn H (ds'++[])={results:=[.lit (.bool true)],args:=ds'})
  {W:World} {base:Nat} {args:Array Value} {ds gs:List (DataW H)} {before:List MemPlace}
  (hval: ∀ (j:Nat) t v,fn.params[j]?=some t→args[j]?=some v→Value.okWide P W .any base t v)
  (hW:DataW.Whole enc P fn.params.toList s.vars false W args.toList ds gs before):
  Calls P f args W fun e W'=> ∃ v,e= .returned v∧s.post enc P fn false true false false W args v W':=by
  subst hts;have hW':=hW;obtain⟨p,q,hA0,hV,rfl,hfz,hnd⟩:=hW;obtain⟨a,k1,k2⟩:=hA.read (base:=base) (fun j t v h1 h2=>hval j t v (by simpa using h1) (by simpa using h2)) hA0;refine (law_calls ((hlaw a k1).mono fun v st h=>h.1) k2).mono fun e W' ⟨he,hb⟩=>⟨_,he,?_⟩
  exact law_post hl (fun t hm=>by
   have:=List.all_eq_true.1 ht t hm;rw [Bool.and_eq_true,decide_eq_true_eq] at this;exact this) hres hB hvars hfn hW' hb
end Go.Aw
namespace Go.Aw
open Go.RowKit (Below)
end Go.Aw
namespace Go.Aw
open Go.RowKit (Below)
@[irreducible] def AV.anyB:AV:=⟨fun _ v=> ∃ b,v= .bool b,fun _ h=>h⟩
theorem AV.anyB_holds {g:Ghost} {v:Value}:AV.anyB.holds g v↔ ∃ b,v= .bool b:=by unfold AV.anyB;rfl
theorem flatten_set {α:Type} {sz:Nat}: ∀ {xs:List (List α)} (h: ∀ x∈xs,x.length=sz) (k:Nat) (r:List α) (hr:r.length=sz) (hk:k<xs.length) (pad:List α),
  setMany (xs.flatten++pad) (0+k*sz) r=(xs.set k r).flatten++pad
  | [],_,k,_,_,hk,_=>by simp at hk
  |x::xs,h,0,r,hr,_,pad=>by
   have hx:x.length=sz:=h x (by simp);simp only [setMany,Nat.zero_mul,Nat.add_zero,List.take_zero,List.nil_append,Nat.zero_add,List.set_cons_zero,List.flatten_cons,List.append_assoc];rw [List.drop_append_of_le_length (by omega),List.drop_of_length_le (by omega),List.nil_append]
  |x::xs,h,k+1,r,hr,hk,pad=>by
   have hx:x.length=sz:=h x (by simp);have ih:=flatten_set (xs:=xs) (fun y hy=>h y (List.mem_cons_of_mem _ hy)) k r hr (by simpa using hk) pad;simp only [setMany,Nat.zero_add] at ih ⊢;simp only [List.flatten_cons,List.set_cons_succ,List.append_assoc];rw [show (k+1)*sz=x.length+k*sz by rw [Nat.add_mul,hx];omega];rw [List.take_length_add_append,Nat.add_assoc x.length,List.drop_length_add_append,←ih];simp only [List.append_assoc]
section
variable {P:Program} {σ:Fr} {st:List Item} {i:Nat} {d:Option Tmp} {ty:TypeId} {pos:String} {after:Array Edge} {gd:Option (Nat×Bool)} {w:World}
theorem y_loadRow {T n j k:Nat} {x:Operand} {st':List Item} {α:Type} {L:List α} {f:α→List AV} {pad:List AV} {e:α} [AggT P T n] (hf: ∀ a,(f a).length=n) (hx:Ev σ x (.ptr j (0+k*n))) (ht:Take st (.cells j ((L.map f).flatten++pad)) st') (he: ∃ h:k<L.length,L[k]=e):
  Yields P ⟨d,.load T x,ty,pos,after,gd⟩ σ st i (.agg (f e)) st:=by
  obtain⟨hk,rfl⟩:=he;have hl: ∀ r∈L.map f,r.length=n:=fun r hr=>by obtain⟨a,_,rfl⟩:=List.mem_map.1 hr;exact hf a
  have hfl:(L.map f).flatten.length=L.length*n:=by rw [flatten_len hl,List.length_map]
  have hle:k*n+n≤L.length*n:=by rw [←Nat.succ_mul];exact Nat.mul_le_mul_right n hk
  have:=y_loadAgg (P:=P) (T:=T) (d:=d) (ty:=ty) (pos:=pos) (after:=after) (gd:=gd) (i:=i) hx ht (by rw [List.length_append,hfl];omega);rw [Nat.zero_add,List.drop_append_of_le_length (by rw [hfl];omega),List.take_append_of_le_length (by rw [List.length_drop,hfl];omega),flatten_get hl k (f L[k]) (by simp [hk])] at this;exact this
theorem y_storeRow {T n j k:Nat} {x y:Operand} {st':List Item} {α:Type} {L:List α} {f:α→List AV} {pad:List AV} {e:α} (hT:sizeB P T=some n) (hf: ∀ a,(f a).length=n) (hx:Ev σ x (.ptr j (0+k*n))) (hy:Ev σ y (.agg (f e))) (hk:k<L.length)
  (hu:Upd st (.cells j ((L.map f).flatten++pad)) (.cells j (((L.set k e).map f).flatten++pad)) st'):
  Yields P ⟨d,.store T x y,ty,pos,after,gd⟩ σ st i (.val undef) st':=by
  have hl: ∀ r∈L.map f,r.length=n:=fun r hr=>by obtain⟨a,_,rfl⟩:=List.mem_map.1 hr;exact hf a
  have hfl:(L.map f).flatten.length=L.length*n:=by rw [flatten_len hl,List.length_map]
  have hle:k*n+n≤L.length*n:=by rw [←Nat.succ_mul];exact Nat.mul_le_mul_right n hk
  refine y_store (cs:=(L.map f).flatten++pad) hT (hf e) hx hy ?_ (by rw [List.length_append,hfl];omega);rw [flatten_set hl k (f e) (hf e) (by simpa using hk) pad,←List.map_set];exact hu
theorem y_eqNilF {T E sz by_ T':Nat} {x:Operand} {av:AV} {xs:List (List AV)} [ht:SliceT P T E sz by_] [hr:Rd av sz xs] (hx:Ev σ x av) (hne:xs≠[]):Yields P ⟨d,.binOp .eql T x (.const (.slice none 0 0)) T',ty,pos,after,gd⟩ σ st i (.bool false) st:=fun F g a w hw hi hs=>by
  obtain⟨ad,cap,e,_,hrow⟩:=AV.sl_holds.1 (hr.imp _ _ (hx.holds hs (by simp [Op.operands])));obtain⟨b,o,rfl,_⟩:=hrow.2 hne;refine goes_value (u:= .bool false) ?_ ⟨g,Ghost.to.refl g i,hw,AV.val_self _⟩;have en:a.eval (.const (.slice none 0 0))= .slice none 0 0:=rfl;simp only [execOp,e,en];simp [binOp,eqGuard,run_equal_slice_nil w T E _ _ _ ht.und]
theorem y_eqNilA {T E sz by_ T':Nat} {x:Operand} {av:AV} {xs:List (List AV)} [ht:SliceT P T E sz by_] [hr:Rd av sz xs] (hx:Ev σ x av):Yields P ⟨d,.binOp .eql T x (.const (.slice none 0 0)) T',ty,pos,after,gd⟩ σ st i .anyB st:=fun F g a w hw hi hs=>by
  obtain⟨ad,cap,e,_,hrow⟩:=AV.sl_holds.1 (hr.imp _ _ (hx.holds hs (by simp [Op.operands])));refine goes_value (u:= .bool ad.isNone) ?_ ⟨g,Ghost.to.refl g i,hw,AV.anyB_holds.2 ⟨_,rfl⟩⟩;have en:a.eval (.const (.slice none 0 0))= .slice none 0 0:=rfl;simp only [execOp,e,en];simp [binOp,eqGuard,run_equal_slice_nil w T E _ _ _ ht.und]
theorem st_appendArr {n:Nat} {ops:Array Oper} {rest:List Oper} {K:Fr→List Item→Prop} {dd:Nat} {T E sz by_:Nat} {x y:Operand} {av:AV} {ys:List (List AV)} {zs:List Value} [ht:SliceT P T E sz by_] [hz:ZeroT P E zs] [hr:Rd av sz ys] (hzl:zs.length=sz) (hz1:zs.all (·.oneCell')=true)
  (hx:Ev σ x (.full sz [])) (hy:Ev σ y av) (hne:ys≠[]) (hb:ys.length≤1073741824) (hd:Nat.blt dd n=true)
  (h: ∀ i pad,AOps P n ops rest ((dd,.arr i 0 ys.length)::σ) (.cells i (ys.flatten++pad)::st) K):
  AOps P n ops (⟨some dd,.call {callee:= .builtin .append,args:= #[x,y],argTypes:= #[T,T]},ty,pos,after,none⟩::rest) σ st K:=by
  intro F g a w hfr hw;have hs:Slots g σ a (opTmps ⟨some dd,.call {callee:= .builtin .append,args:= #[x,y],argTypes:= #[T,T]},ty,pos,after,none⟩):=hfr.slots _;have ex:=hx.holds hs (by simp [Op.operands,Call.operands]);obtain⟨ad,cap,ey,hcapy,hlen,hrow⟩:=AV.sl_holds.1 (hr.imp _ _ (hy.holds hs (by simp [Op.operands,Call.operands])));obtain⟨inf,z,hinf,hsz,hby,hzero,hzc⟩:=info_of (P:=P) ht.hsize ht.hbytes (hz:=hz);obtain⟨b',o',rfl,hrow'⟩:=hrow hne;obtain⟨news,n1,n2,n3⟩:=hrow'.values;have hln:news.length=ys.length*sz:=by rw [←n1.length,flatten_len hlen]
  have hypos:0<ys.length:=by cases ys with|nil=>exact absurd rfl hne|cons=>simp
  have hnews: ∀ j u,news[j]?=some u→w.cell? ((⟨b',o',none⟩:Addr).add j)=some u:=fun j u hj=>by
   rw [Addr.add_mk];exact hw.com _ _ _ (n3 j u hj)
  have hbytes:ys.length*inf.bytes≤140737488355328:=by
   rw [hby]
   calc ys.length*by_≤1073741824*65536:=Nat.mul_le_mul hb ht.small
    _≤_:=by decide
  have hi:g.loc g.next=none:=hw.fresh _ (Nat.le_refl _);have hzsz:z.cells.size=sz:=by rw [hzc];simpa using hzl
  have hrun:(Builtin.append_ #[T,T] ty #[a.eval x,a.eval y]).run P w= .ok (.slice (some ⟨w.heap.size,0,none⟩) ys.length (grownCap w ys.length 0 E)) (w.drew.alloc (.cells (news.toArray++Builtin.zeroCells z.cells (grownCap w ys.length 0 E - ys.length)) E)):=by
   obtain⟨b,e,hbn,_,_⟩:=AV.full_holds.1 ex;simp only [List.length_nil] at e;cases b with
   |none=>
    rw [e,ey];exact run_append_nil (P:=P) w T ty E inf z ht.und hinf hzero ⟨b',o',none⟩ ys.length cap news (by rw [hln,hsz]) hnews hypos (by omega) (by omega)
   |some ba=>
    rw [e,ey];have:=run_append_grow (P:=P) w T ty E inf z ht.und hinf hzero ba 0 0 [] (by simp) (by simp) ⟨b',o',none⟩ ys.length cap news (by rw [hln,hsz]) hnews (by omega) (by omega) (growslice_fits (by omega) (by simpa using hbytes));simpa using this
  generalize hpad:Builtin.zeroCells z.cells (grownCap w ys.length 0 E - ys.length)=pz at hrun;have hp1: ∀ u∈pz.toList,u.oneCell'=true:=by
   intro u hu;rw [←hpad] at hu;unfold Builtin.zeroCells at hu;simp only [Array.toList_map,List.mem_map,Array.toList_range,List.mem_range] at hu;obtain⟨k,hk,rfl⟩:=hu;have hpos:0<z.cells.size:=by rw [hzsz];exact ht.pos
   have hlt:=Nat.mod_lt k hpos;rw [getElem!_pos z.cells (k % z.cells.size) hlt];rw [List.all_eq_true] at hz1;refine hz1 _ ?_;have hm:z.cells[k % z.cells.size]∈z.cells.toList:=Array.mem_toList_iff.2 (Array.getElem_mem hlt);have ez:z.cells.toList=zs:=by rw [hzc]
   generalize z.cells[k % z.cells.size]=q at hm ⊢;rw [ez] at hm;exact hm
  have h1:=(hw.drew).allocCells (i:=g.next) hi (cs:=ys.flatten++pz.toList.map AV.val) (vs:=news.toArray++pz) E (by simpa using n1.append (holdsL_vals pz.toList)) (by
   intro u hu;simp only [Array.toList_append,List.mem_append] at hu;exact hu.elim (n2 u) (hp1 u))
  unfold wpList;rw [if_pos (by simp [Region.wanted])];left;have hg:Goes P ⟨some dd,.call {callee:= .builtin .append,args:= #[x,y],argTypes:= #[T,T]},ty,pos,after,none⟩ a w (fun u w'=> ∃ (v:AV) (st':List Item) (g':Ghost),g.ext g'∧RelW g' (st'++F) w'∧v.holds g' u∧AOps P n ops rest ((dd,v)::σ) st' K):=by
   refine goes_value (u:= .slice (some ⟨w.heap.size,0,none⟩) ys.length (grownCap w ys.length 0 E)) ?_ ⟨.arr g.next 0 ys.length,.cells g.next (ys.flatten++pz.toList.map AV.val)::st,_,(Ghost.to_setLoc hi).ext (Nat.le_refl _),h1,?_,h _ _⟩
   ·simp only [execOp,resolve,Sem.run_bind,Sem.run_pure,Result.andThen_ok,invoke,builtin];simp only [List.map_toArray,List.map_cons,List.map_nil,hrun,Result.andThen_ok]
   ·rw [AV.arr_holds];exact⟨_,_,_,_,Ghost.setLoc_same,rfl,grownCap_ge w ys.length 0 E⟩
  exact hg.wp fun u w' ⟨v,st',g',hx,hw',hv',hk⟩=>wpList_ext hx (hk F g' _ w' ((hfr.mono hx.le).put (blt_lt hd) hv') hw')
end
theorem awp_anyB {P:Program} {n:Nat} {c:Code} {σ:Fr} {st:List Item} {Q:Exit→Fr→List Item→Prop} {t:Nat} (h:look σ t=some .anyB) (k: ∀ b,AWP P n c ((t,.bool b)::σ) st Q):AWP P n c σ st Q:=fun F g a w hf hw=>by
  obtain⟨u,hu,hh⟩:=hf.slot _ _ h;obtain⟨b,rfl⟩:=AV.anyB_holds.1 hh;refine k b F g a w ⟨hf.size,hf.defers,fun i v e=> ?_⟩ hw;rw [look_cons] at e;split at e
  ·rename_i hk;subst hk;cases e;exact⟨_,hu,AV.val_self _⟩
  ·exact hf.slot i v e
end Go.Aw
namespace Go.Aw
open Go.RowKit (Below)
inductive RowsImp:List (List AV)→List (List AV)→Prop
  |nil:RowsImp [] []
  |cons {x y xs ys} (h:ImpL x y) (r:RowsImp xs ys):RowsImp (x::xs) (y::ys)
theorem ImpL.len {a b:List AV} (h:ImpL a b):a.length=b.length:=by
  induction h with
  |nil=>rfl
  |cons _ _ ih=>simp [ih]
theorem ImpL.append {a b c d:List AV} (h:ImpL a b) (k:ImpL c d):ImpL (a++c) (b++d):=by
  induction h with
  |nil=>exact k
  |cons h _ ih=>exact .cons h ih
theorem RowsImp.refl: ∀ (xs:List (List AV)),RowsImp xs xs
  | []=> .nil
  |x::xs=> .cons (ImpL.refl x) (RowsImp.refl xs)
theorem RowsImp.len {xs ys:List (List AV)} (h:RowsImp xs ys):xs.length=ys.length:=by
  induction h with
  |nil=>rfl
  |cons _ _ ih=>simp [ih]
theorem RowsImp.append {a b c d:List (List AV)} (h:RowsImp a b) (k:RowsImp c d):RowsImp (a++c) (b++d):=by
  induction h with
  |nil=>exact k
  |cons h _ ih=>exact .cons h ih
theorem RowsImp.flatten {xs ys:List (List AV)} (h:RowsImp xs ys):ImpL xs.flatten ys.flatten:=by
  induction h with
  |nil=>exact .nil
  |cons h _ ih=>exact h.append ih
theorem RowsImp.sizes {xs ys:List (List AV)} {sz:Nat} (h:RowsImp xs ys):(∀ x∈xs,x.length=sz)→ ∀ y∈ys,y.length=sz:=by
  induction h with
  |nil=>exact fun h=>h
  |cons h _ ih=>
   intro hl y hy;rcases List.mem_cons.1 hy with rfl|hy
   ·rw [←h.len];exact hl _ (List.mem_cons_self ..)
   ·exact ih (fun x hx=>hl x (List.mem_cons_of_mem _ hx)) y hy
theorem comRow.imp {g:Ghost} {b:Nat}: ∀ {o:Nat} {cs ds:List AV},ImpL cs ds→comRow g b o cs→comRow g b o ds
  |_,_,_,.nil,_=>trivial
  |_,_,_,.cons h r,⟨⟨v,a,c,d⟩,k⟩=>⟨⟨v,a,h _ _ c,d⟩,comRow.imp r k⟩
theorem AV.rows.imp {g:Ghost} {a:Option Addr} {sz:Nat} {xs ys:List (List AV)} (h:RowsImp xs ys) (k:AV.rows g a sz xs):AV.rows g a sz ys:=
  ⟨h.sizes k.1,fun hne=>by
   obtain⟨b,o,e,hr⟩:=k.2 (by rintro rfl;cases h;exact hne rfl);exact⟨b,o,e,hr.imp h.flatten⟩⟩
theorem AV.Imp.sl_rows {sz:Nat} {xs ys:List (List AV)} (h:RowsImp xs ys):(AV.sl sz xs).Imp (.sl sz ys):=fun g u hu=>by
  obtain⟨a,cap,e,hc,hr⟩:=AV.sl_holds.1 hu;exact AV.sl_holds.2 ⟨a,cap,by rw [←h.len];exact e,by rw [←h.len];exact hc,hr.imp h⟩
theorem AV.Imp.full_rows {sz:Nat} {xs ys:List (List AV)} (h:RowsImp xs ys):(AV.full sz xs).Imp (.full sz ys):=fun g u hu=>by
  obtain⟨a,e,hc,hr⟩:=AV.full_holds.1 hu;exact AV.full_holds.2 ⟨a,by rw [←h.len];exact e,fun ha=>by have:=hc ha;subst this;cases h;rfl,hr.imp h⟩
theorem AV.Imp.own_rows {sz i:Nat} {xs ys:List (List AV)} (h:RowsImp xs ys):(AV.own sz i xs).Imp (.own sz i ys):=fun g u hu=>by
  obtain⟨b,p,S,off,cap,h1,h2,h3,h4,h5,h6,h7⟩:=AV.own_holds.1 hu;exact AV.own_holds.2 ⟨b,p,S,off,cap,h1,by rw [←h.len];exact h2,by rw [←h.len];exact h3,h.sizes h4,h5.imp h.flatten,by rw [←h.len];exact h6,h7⟩
theorem AV.Imp.grow_rows {sz:Nat} {t:Option Nat} {xs ys:List (List AV)} (h:RowsImp xs ys):(AV.grow sz t xs).Imp (.grow sz t ys):=by
  cases t with
  |none=>exact AV.Imp.full_rows h
  |some i=>exact AV.Imp.own_rows h
class RowOf (x:List AV) {α:Type} (enc:α→List AV) (a:outParam α):Prop where
  imp:ImpL x (enc a)
class RowsOf (xs:List (List AV)) {α:Type} (enc:α→List AV) (l:outParam (List α)):Prop where
  imp:RowsImp xs (l.map enc)
class Sl (v:AV) (sz:Nat) {α:Type} (enc:α→List AV) (l:outParam (List α)):Prop where
  imp:v.Imp (.sl sz (l.map enc))
section
variable {α:Type} {enc:α→List AV}
instance (priority:=high) {a:α}:RowOf (enc a) enc a:=⟨ImpL.refl _⟩
instance (priority:=high) {l:List α}:RowsOf (l.map enc) enc l:=⟨RowsImp.refl _⟩
instance :RowsOf [] enc []:=⟨.nil⟩
instance {x:List AV} {xs:List (List AV)} {a:α} {l:List α} [h:RowOf x enc a] [r:RowsOf xs enc l]:RowsOf (x::xs) enc (a::l):=⟨.cons h.imp r.imp⟩
instance {xs ys:List (List AV)} {l m:List α} [h:RowsOf xs enc l] [r:RowsOf ys enc m]:RowsOf (xs++ys) enc (l++m):=⟨by rw [List.map_append];exact h.imp.append r.imp⟩
instance (priority:=high) {sz:Nat} {l:List α}:Sl (.sl sz (l.map enc)) sz enc l:=⟨AV.Imp.refl _⟩
instance {v:AV} {sz:Nat} {xs:List (List AV)} {l:List α} [h:Rd v sz xs] [r:RowsOf xs enc l]:Sl v sz enc l:=⟨h.imp.trans (AV.Imp.sl_rows r.imp)⟩
end
theorem AV.Imp.grow_of {α:Type} {enc:α→List AV} {sz:Nat} {t:Option Nat} {xs:List (List AV)} {l l':List α} [h:RowsOf xs enc l] (e:l=l'):(AV.grow sz t xs).Imp (.grow sz t (l'.map enc)):=by
  subst e;exact AV.Imp.grow_rows h.imp
theorem AV.Imp.sl_of {α:Type} {enc:α→List AV} {v:AV} {sz:Nat} {l l':List α} [h:Sl v sz enc l] (e:l=l'):v.Imp (.sl sz (l'.map enc)):=by
  subst e;exact h.imp
theorem AV.Imp.row_of {α:Type} {enc:α→List AV} {x:List AV} {a a':α} [h:RowOf x enc a] (e:a=a'):(AV.agg x).Imp (.agg (enc a')):=by
  subst e;exact AV.Imp.agg h.imp
theorem AV.Imp.int_of {k:IntKind} {a b:Int} (e:a=b):(AV.val (.int k a)).Imp (.val (.int k b)):=by subst e;exact AV.Imp.refl _
def encI (n:Int):List AV:=[.int n]
instance {n:Int}:RowOf [.val (.int .i64 n)] encI n:=⟨ImpL.refl _⟩
def encLI (l:List Int):List AV:=[.sl 1 (l.map encI)]
instance {v:AV} {l:List Int} [h:Sl v 1 encI l]:RowOf [v] encLI l:=⟨.cons h.imp .nil⟩
theorem k1 {x0 it:Item} {st:List Item}:Take (x0::it::st) it (x0::st):= .there (.here)
theorem u1 {x0 it it':Item} {st:List Item}:Upd (x0::it::st) it it' (x0::it'::st):= .there (.here)
theorem k2 {x0 x1 it:Item} {st:List Item}:Take (x0::x1::it::st) it (x0::x1::st):= .there (.there (.here))
theorem u2 {x0 x1 it it':Item} {st:List Item}:Upd (x0::x1::it::st) it it' (x0::x1::it'::st):= .there (.there (.here))
theorem k3 {x0 x1 x2 it:Item} {st:List Item}:Take (x0::x1::x2::it::st) it (x0::x1::x2::st):= .there (.there (.there (.here)))
theorem u3 {x0 x1 x2 it it':Item} {st:List Item}:Upd (x0::x1::x2::it::st) it it' (x0::x1::x2::it'::st):= .there (.there (.there (.here)))
theorem k4 {x0 x1 x2 x3 it:Item} {st:List Item}:Take (x0::x1::x2::x3::it::st) it (x0::x1::x2::x3::st):= .there (.there (.there (.there (.here))))
theorem u4 {x0 x1 x2 x3 it it':Item} {st:List Item}:Upd (x0::x1::x2::x3::it::st) it it' (x0::x1::x2::x3::it'::st):= .there (.there (.there (.there (.here))))
theorem k5 {x0 x1 x2 x3 x4 it:Item} {st:List Item}:Take (x0::x1::x2::x3::x4::it::st) it (x0::x1::x2::x3::x4::st):= .there (.there (.there (.there (.there (.here)))))
theorem u5 {x0 x1 x2 x3 x4 it it':Item} {st:List Item}:Upd (x0::x1::x2::x3::x4::it::st) it it' (x0::x1::x2::x3::x4::it'::st):= .there (.there (.there (.there (.there (.here)))))
theorem k6 {x0 x1 x2 x3 x4 x5 it:Item} {st:List Item}:Take (x0::x1::x2::x3::x4::x5::it::st) it (x0::x1::x2::x3::x4::x5::st):= .there (.there (.there (.there (.there (.there (.here))))))
theorem u6 {x0 x1 x2 x3 x4 x5 it it':Item} {st:List Item}:Upd (x0::x1::x2::x3::x4::x5::it::st) it it' (x0::x1::x2::x3::x4::x5::it'::st):= .there (.there (.there (.there (.there (.there (.here))))))
theorem k7 {x0 x1 x2 x3 x4 x5 x6 it:Item} {st:List Item}:Take (x0::x1::x2::x3::x4::x5::x6::it::st) it (x0::x1::x2::x3::x4::x5::x6::st):= .there (.there (.there (.there (.there (.there (.there (.here)))))))
theorem u7 {x0 x1 x2 x3 x4 x5 x6 it it':Item} {st:List Item}:Upd (x0::x1::x2::x3::x4::x5::x6::it::st) it it' (x0::x1::x2::x3::x4::x5::x6::it'::st):= .there (.there (.there (.there (.there (.there (.there (.here)))))))
theorem k8 {x0 x1 x2 x3 x4 x5 x6 x7 it:Item} {st:List Item}:Take (x0::x1::x2::x3::x4::x5::x6::x7::it::st) it (x0::x1::x2::x3::x4::x5::x6::x7::st):= .there (.there (.there (.there (.there (.there (.there (.there (.here))))))))
theorem u8 {x0 x1 x2 x3 x4 x5 x6 x7 it it':Item} {st:List Item}:Upd (x0::x1::x2::x3::x4::x5::x6::x7::it::st) it it' (x0::x1::x2::x3::x4::x5::x6::x7::it'::st):= .there (.there (.there (.there (.there (.there (.there (.there (.here))))))))
theorem k9 {x0 x1 x2 x3 x4 x5 x6 x7 x8 it:Item} {st:List Item}:Take (x0::x1::x2::x3::x4::x5::x6::x7::x8::it::st) it (x0::x1::x2::x3::x4::x5::x6::x7::x8::st):= .there (.there (.there (.there (.there (.there (.there (.there (.there (.here)))))))))
theorem u9 {x0 x1 x2 x3 x4 x5 x6 x7 x8 it it':Item} {st:List Item}:Upd (x0::x1::x2::x3::x4::x5::x6::x7::x8::it::st) it it' (x0::x1::x2::x3::x4::x5::x6::x7::x8::it'::st):= .there (.there (.there (.there (.there (.there (.there (.there (.there (.here)))))))))
theorem k10 {x0 x1 x2 x3 x4 x5 x6 x7 x8 x9 it:Item} {st:List Item}:Take (x0::x1::x2::x3::x4::x5::x6::x7::x8::x9::it::st) it (x0::x1::x2::x3::x4::x5::x6::x7::x8::x9::st):= .there (.there (.there (.there (.there (.there (.there (.there (.there (.there (.here))))))))))
theorem u10 {x0 x1 x2 x3 x4 x5 x6 x7 x8 x9 it it':Item} {st:List Item}:Upd (x0::x1::x2::x3::x4::x5::x6::x7::x8::x9::it::st) it it' (x0::x1::x2::x3::x4::x5::x6::x7::x8::x9::it'::st):= .there (.there (.there (.there (.there (.there (.there (.there (.there (.there (.here))))))))))
theorem k11 {x0 x1 x2 x3 x4 x5 x6 x7 x8 x9 x10 it:Item} {st:List Item}:Take (x0::x1::x2::x3::x4::x5::x6::x7::x8::x9::x10::it::st) it (x0::x1::x2::x3::x4::x5::x6::x7::x8::x9::x10::st):= .there (.there (.there (.there (.there (.there (.there (.there (.there (.there (.there (.here)))))))))))
theorem u11 {x0 x1 x2 x3 x4 x5 x6 x7 x8 x9 x10 it it':Item} {st:List Item}:Upd (x0::x1::x2::x3::x4::x5::x6::x7::x8::x9::x10::it::st) it it' (x0::x1::x2::x3::x4::x5::x6::x7::x8::x9::x10::it'::st):= .there (.there (.there (.there (.there (.there (.there (.there (.there (.there (.there (.here)))))))))))
theorem k12 {x0 x1 x2 x3 x4 x5 x6 x7 x8 x9 x10 x11 it:Item} {st:List Item}:Take (x0::x1::x2::x3::x4::x5::x6::x7::x8::x9::x10::x11::it::st) it (x0::x1::x2::x3::x4::x5::x6::x7::x8::x9::x10::x11::st):= .there (.there (.there (.there (.there (.there (.there (.there (.there (.there (.there (.there (.here))))))))))))
theorem u12 {x0 x1 x2 x3 x4 x5 x6 x7 x8 x9 x10 x11 it it':Item} {st:List Item}:Upd (x0::x1::x2::x3::x4::x5::x6::x7::x8::x9::x10::x11::it::st) it it' (x0::x1::x2::x3::x4::x5::x6::x7::x8::x9::x10::x11::it'::st):= .there (.there (.there (.there (.there (.there (.there (.there (.there (.there (.there (.there (.here))))))))))))
theorem k13 {x0 x1 x2 x3 x4 x5 x6 x7 x8 x9 x10 x11 x12 it:Item} {st:List Item}:Take (x0::x1::x2::x3::x4::x5::x6::x7::x8::x9::x10::x11::x12::it::st) it (x0::x1::x2::x3::x4::x5::x6::x7::x8::x9::x10::x11::x12::st):= .there (.there (.there (.there (.there (.there (.there (.there (.there (.there (.there (.there (.there (.here)))))))))))))
theorem u13 {x0 x1 x2 x3 x4 x5 x6 x7 x8 x9 x10 x11 x12 it it':Item} {st:List Item}:Upd (x0::x1::x2::x3::x4::x5::x6::x7::x8::x9::x10::x11::x12::it::st) it it' (x0::x1::x2::x3::x4::x5::x6::x7::x8::x9::x10::x11::x12::it'::st):= .there (.there (.there (.there (.there (.there (.there (.there (.there (.there (.there (.there (.there (.here)))))))))))))
class SaysI (gv:AV) (pol:Bool) (c:outParam Prop):Prop where
  out:Says gv pol c
instance {b pol:Bool}:SaysI (.bool b) pol (b=pol):=⟨Says.bool b pol⟩
instance {c:Prop} {b pol:Bool}:SaysI (.opt c (.bool b)) pol (c∧b=pol):=⟨Says.opt c b pol⟩
theorem le_ {n m:Nat} (h:Nat.ble n m=true):n≤m:=Nat.le_of_ble_eq_true h
inductive Keeps (σ:Fr):List Nat→Fr→Prop
  |nil:Keeps σ [] []
  |cons {t ts v r} (h:look σ t=some v) (k:Keeps σ ts r):Keeps σ (t::ts) ((t,v)::r)
inductive Takes:List Item→List Item→List Item→Prop
  |nil (st):Takes st [] st
  |cons {st it st' its r} (h:Take st it st') (k:Takes st' its r):Takes st (it::its) r
theorem Takes.perm {st its r:List Item} (h:Takes st its r):st.Perm (its++r):=by
  induction h with
  |nil st=>exact List.Perm.refl _
  |cons h _ ih=>exact h.perm.trans (List.Perm.cons _ ih)
section code
variable {P:Program} {n:Nat} {σ:Fr} {st:List Item} {Q:Exit→Fr→List Item→Prop}
theorem awp_loop2 {c:Code} {X:Type} (ts:List Nat) {σk:Fr} (hk:Keeps σ ts σk) {rest:List Item} (mod:Fr→X→Fr) (mit:List Item→X→List Item) (dom:X→Prop) (μ:X→Nat) (x0:X) (hstart:Weak n σ st (mod σk x0) (mit rest x0)) (h0:dom x0)
  (hround: ∀ x,dom x→AWP P n c (mod σk x) (mit rest x) (Exit.thenA (fun σ' st'=> ∃ x',dom x'∧μ x'<μ x∧Weak n σ' st' (mod σk x') (mit rest x')) Q)):AWP P n (.loop c) σ st Q:=
  awp_loop (mod σk) (mit rest) dom μ x0 h0 hstart hround
end code
inductive ItLe2:List Item→List Item→Prop
  |nil (st):ItLe2 st []
  |refl (st):ItLe2 st st
  |cells {st i cs cs' st' st''} (h:Take st (.cells i cs) st'') (hc:ImpL cs cs') (r:ItLe2 st'' st'):ItLe2 st (.cells i cs'::st')
  |cons {st it st' st''} (h:Take st it st'') (r:ItLe2 st'' st'):ItLe2 st (it::st')
  |tail0 {st st'} (r:ItLe2 st st'):ItLe2 st (.tail none::st')
  |sub {st st'} (r:st'.Sublist st):ItLe2 st st'
theorem ItLe2.relW {st st':List Item} (h:ItLe2 st st'): ∀ {F g w},RelW g (st++F) w→RelW g (st'++F) w:=by
  induction h with
  |nil st=>intro F g w hw;exact hw.sub (List.sublist_append_right _ _)
  |refl st=>exact fun hw=>hw
  | @cells st i cs cs' st' st'' h hc r ih=>
   intro F g w hw;have h1:RelW g (.cells i cs::(st''++F)) w:=hw.take h;have h2:RelW g (st''++(.cells i cs::F)) w:=h1.perm (List.perm_middle.symm);have h3:=ih h2;have h4:RelW g (.cells i cs::(st'++F)) w:=h3.perm List.perm_middle;exact (ItImp.cells hc (ItImp.refl (st'++F))).relW h4
  | @cons st it st' st'' h r ih=>
   intro F g w hw;have h1:RelW g (it::(st''++F)) w:=hw.take h;have h2:RelW g (st''++(it::F)) w:=h1.perm (List.perm_middle.symm);have h3:=ih h2;exact h3.perm List.perm_middle
  |sub r=>intro F g w hw;exact hw.sub (r.append_right F)
  |tail0 r ih=>intro F g w hw;exact RelW.cons (ih hw) trivial (fun b hb=>by simp [Item.blk,Item.id?] at hb)
theorem Weak.of2 {n:Nat} {σ σ':Fr} {st st':List Item} (h:FrLe σ σ') (k:ItLe2 st st'):Weak n σ st σ' st':=fun F g a w hf hw=>
  ⟨g,Ghost.ext.refl g,⟨hf.size,hf.defers,fun t v' e=>let ⟨v,h1,h2⟩:=h.look t v' e;let ⟨u,p,q⟩:=hf.slot t v h1;⟨u,p,h2 _ _ q⟩⟩,k.relW hw⟩
theorem VShift.of2 {v v':AV} {st st':List Item} (h:v.Imp v') (k:ItLe2 st st'):VShift v st v' st':=fun F g u w hw hv=>⟨g,Ghost.ext.refl g,k.relW hw,h _ _ hv⟩
theorem VShift.of1 {v v':AV} {st st':List Item} (h:v.Imp v') (k:ItLe2 st st'):VShift (shutRes [v]) st v' st':=VShift.of2 h k
section
variable {P:Program}
theorem ACalls.upd {f:FuncId} {args:List AV} {st its its' r:List Item} {v:AV} {Q:AV→List Item→Prop} (hp:Takes st its r) (h:ACalls P f args its (fun v' s=>v'=v∧s=its')) (hq:Q v (its'++r)):ACalls P f args st Q:=
  h.frame hp.perm fun v' st' ⟨a,b⟩=>by rw [a,b];exact hq
theorem ACalls.updP {f:FuncId} {args:List AV} {st its r:List Item} {R Q:AV→List Item→Prop} (hp:Takes st its r) (h:ACalls P f args its R) (hq: ∀ v s,R v s→Q v (s++r)):ACalls P f args st Q:=
  h.frame hp.perm hq
variable {σ:Fr} {st:List Item} {i:Nat} {d:Option Tmp} {ty:TypeId} {pos:String} {after:Array Edge} {gd:Option (Nat×Bool)}
theorem y_storeN {T j off:Nat} {x y:Operand} {cs ds cs':List AV} {v:AV} {st':List Item} {n:Nat} [hc:Cells v ds] (hT:sizeB P T=some n) (hn:ds.length=n) (hx:Ev σ x (.ptr j off)) (hy:Ev σ y v) (hu:Upd st (.cells j cs) (.cells j cs') st') (hfit:off+n≤cs.length) (hs:setMany cs off ds=cs'):
  Yields P ⟨d,.store T x y,ty,pos,after,gd⟩ σ st i (.val undef) st':=by
  subst hs;exact y_store hT hn hx hy hu hfit
class LenOf (xs:List (List AV)) (n:outParam Nat):Prop where
  len:xs.length=n
instance {α:Type} {l:List α} {f:α→List AV}:LenOf (l.map f) l.length:=⟨List.length_map _⟩
theorem y_lenN {T E sz by_:Nat} {x:Operand} {av:AV} {xs:List (List AV)} {n:Nat} [ht:SliceT P T E sz by_] [hr:Rd av sz xs] [hl:LenOf xs n] (hx:Ev σ x av):Yields P ⟨d,.call {callee:= .builtin .len,args:= #[x],argTypes:= #[T]},ty,pos,after,gd⟩ σ st i (.int (n:Int)) st:=by
  have:=y_len (P:=P) (T:=T) (d:=d) (ty:=ty) (pos:=pos) (after:=after) (gd:=gd) (st:=st) (i:=i) (sz:=sz) (xs:=xs) hx;rwa [hl.len] at this
theorem y_loadAggN {T n j off:Nat} {x:Operand} {cs cs':List AV} {st':List Item} [AggT P T n] (hx:Ev σ x (.ptr j off)) (ht:Take st (.cells j cs) st') (hn:off+n≤cs.length) (hs:(cs.drop off).take n=cs'):Yields P ⟨d,.load T x,ty,pos,after,gd⟩ σ st i (.agg cs') st:=by
  subst hs;exact y_loadAgg hx ht hn
theorem y_loadEAggN {T n:Nat} {x:Operand} {cs cs':List AV} [AggT P T n] (hx:Ev σ x (.eptr cs)) (hn:n≤cs.length) (hs:cs.take n=cs'):Yields P ⟨d,.load T x,ty,pos,after,gd⟩ σ st i (.agg cs') st:=by
  subst hs;exact y_loadEAgg hx hn
theorem st_storeN {nn:Nat} {ops:Array Oper} {rest:List Oper} {K:Fr→List Item→Prop} {T j off:Nat} {x y:Operand} {cs ds cs':List AV} {v:AV} {st':List Item} {n:Nat} [hc:Cells v ds] (hT:sizeB P T=some n) (hn:ds.length=n) (hx:Ev σ x (.ptr j off)) (hy:Ev σ y v) (hu:Upd st (.cells j cs) (.cells j cs') st') (hfit:off+n≤cs.length) (hs:setMany cs off ds=cs')
  (h:AOps P nn ops rest σ st' K):AOps P nn ops (⟨none,.store T x y,ty,pos,after,none⟩::rest) σ st K:=
  st_s (fun _=>y_storeN hT hn hx hy hu hfit hs) h
theorem dr_storeN {nn:Nat} {A:List Item} {KK:Nat} {Q:Fr→List Item→Prop} {ks:List Kd} {ii:Nat} {ops:Array Oper} {rest:List Oper} {T j off:Nat} {x y:Operand} {cs ds cs':List AV} {v:AV} {st':List Item} {n:Nat} [hc:Cells v ds] (hT:sizeB P T=some n) (hn:ds.length=n) (hx:Ev σ x (.ptr j off)) (hy:Ev σ y v) (hu:Upd st (.cells j cs) (.cells j cs') st') (hfit:off+n≤cs.length) (hs:setMany cs off ds=cs')
  (h:Drv P nn ops KK A Q (ii+1) rest ks σ st'):Drv P nn ops KK A Q ii (⟨none,.store T x y,ty,pos,after,none⟩::rest) (.write::ks) σ st:=
  dr_s (fun _=>y_storeN hT hn hx hy hu hfit hs) h
theorem y_append0 {T E sz by_:Nat} {x y:Operand} {av:AV} {xs ys:List (List AV)} {zs:List Value} [ht:SliceT P T E sz by_] [hz:ZeroT P E zs] [hr:Rd av sz ys] (hzl:zs.length=sz)
  (hx:Ev σ x (.grow sz none xs)) (hy:Ev σ y av) (hb:xs.length+ys.length≤1073741824):
  Yields P ⟨d,.call {callee:= .builtin .append,args:= #[x,y],argTypes:= #[T,T]},ty,pos,after,gd⟩ σ st i (.grow sz (if ys.isEmpty then none else some i) (xs++ys)) (.tail (if ys.isEmpty then none else some i)::st):=fun F g a w hw hi hs=>by
  have hw':RelW g ((.tail none::st)++F) w:=RelW.cons hw trivial (fun b hb=>by simp [Item.blk,Item.id?] at hb);exact y_append (t:=none) hzl hx hy hb F g a w hw' hi hs
end
section any
variable {P:Program} {n:Nat} {A:List Item}
theorem awp_anyT {id:Nat} {l:List Oper} {ks:List Kd} {σ:Fr} {st:List Item} {Q:Exit→Fr→List Item→Prop} (its:List Item) (ht:Takes st its A) (hm:P.follows .mixedOrders=true)
  (hd: ∀ K,Drv P n l.toArray K A (fun σ' B'=>Q .normal σ' (B'++A)) 0 l ks σ its) (hok:orderOk l.toArray ks=true):AWP P n (.region id l.toArray true) σ st Q:=
  awp_any hm its ht.perm hd hok
theorem awp_anyP {id:Nat} {l:List Oper} {ks:List Kd} {σ:Fr} {st:List Item} {Q:Exit→Fr→List Item→Prop} (its:List Item) (ht:Takes st its A) (hm:P.follows .mixedOrders=true) (hne:its≠[])
  (hd: ∀ K,Drv P n l.toArray K A (fun σ' B'=>Q .normal σ' (B'++A)) 0 l ks σ its) (hok:orderP l.toArray ks=true):AWP P n (.region id l.toArray true) σ st Q:=
  awp_anyQ hm its ht.perm hd hok (.inr hne)
variable {ops:Array Oper} {K:Nat} {Q:Fr→List Item→Prop} {i:Nat} {rest:List Oper} {ks:List Kd} {σ:Fr} {st:List Item} {op:Op} {ty:TypeId} {pos:String} {after:Array Edge}
theorem dr_append0 {d:Nat} {T E sz by_:Nat} {x y:Operand} {av:AV} {xs ys:List (List AV)} {zs:List Value} [ht:SliceT P T E sz by_] [hz:ZeroT P E zs] [hr:Rd av sz ys] (hzl:zs.length=sz)
  (hx:Ev σ x (.grow sz none xs)) (hy:Ev σ y av) (hb:xs.length+ys.length≤1073741824) (hd:Nat.blt d n=true) (h: ∀ t',Drv P n ops K A Q (i+1) rest ks ((d,.grow sz t' (xs++ys))::σ) (.tail t'::st)):
  Drv P n ops K A Q i (⟨some d,.call {callee:= .builtin .append,args:= #[x,y],argTypes:= #[T,T]},ty,pos,after,none⟩::rest) (.write::ks) σ st:=
  ⟨_,_,dst_ok hd,(y_append0 hzl hx hy hb).plain rfl,h _⟩
end any
end Go.Aw
namespace Go.Aw
open Go.RowKit (Below)
@[irreducible] def AV.mapv (i:Nat):AV:=⟨fun g v=> ∃ b p s,g.loc i=some (b,p,s)∧v= .map (some b),fun h ⟨b,p,s,a,c⟩=>⟨b,p,s,h.loc _ _ a,c⟩⟩
theorem AV.mapv_holds {g:Ghost} {i:Nat} {v:Value}:(AV.mapv i).holds g v↔ ∃ b p s,g.loc i=some (b,p,s)∧v= .map (some b):=by unfold AV.mapv;rfl
def getM:List (Int×AV)→Int→Option AV
  | [],_=>none
  | (k',v)::r,k=>if k=k' then some v else getM r k
def setM:List (Int×AV)→Int→AV→List (Int×AV)
  | [],k,v=>[(k,v)]
  | (k',v')::r,k,v=>if k=k' then (k,v)::r else (k',v')::setM r k v
theorem RelW.allocMap {g:Ghost} {st:List Item} {w:World} (h:RelW g st w) {i:Nat} (hi:g.loc i=none):
  RelW (g.setLoc i (w.heap.size,0,0)) (.map i []::st) (w.alloc (.map #[] 0)):=by
  have hle:=Ghost.le_setLoc (g:=g) (i:=i) (x:=(w.heap.size,0,0)) hi;refine RelW.cons (h.evolve (row:=none) hle (World.grownBy_alloc w _ none) (fun b hb=>by cases hb) (fun b o v hv=> .inl ⟨hv,by simp⟩) (fun it _ b _=>⟨by simp,fun _=>rfl⟩) (h.fresh_setLoc i _)) ?_ ?_
  ·exact⟨w.heap.size,0,0,#[],0,Ghost.setLoc_same,heap_alloc_new w _,trivial,fun o=>h.noCom (Nat.le_refl _),h.hB⟩
  ·intro b hb x hx e;simp [Item.blk,Item.id?,Ghost.setLoc_same] at hb;subst hb;rw [Item.blk_le (h.items x hx) hle] at e;exact absurd (h.blk_ne hx e).1 (Nat.lt_irrefl _)
theorem RelW.storeMap {g:Ghost} {st:List Item} {w:World} {i:Nat} {es es':List (Int×AV)} (h:RelW g (.map i es::st) w) {b p s:Nat} (hl:g.loc i=some (b,p,s)) {vs':Array MapEntry} {c':Nat}
  (hv:mapOk g es' vs'.toList):RelW g (.map i es'::st) {w with heap:=w.heap.setIfInBounds b (.map vs' c')}:=by
  obtain⟨b',p',s',vs,c,k1,k2,k3,k5,k6⟩:=h.items _ (by simp:Item.map i es∈Item.map i es::st);rw [hl] at k1;cases k1;have hlt:=(Array.getElem?_eq_some_iff.1 k2).1;have hne:=h.head_notin (b:=b) (by simp [Item.blk,Item.id?,hl]);have ht:=h.tailOf;refine RelW.cons (ht.evolve (row:=some b) (Ghost.le.refl g) ⟨rfl,rfl,rfl,by simp,fun k _ hk=>Array.getElem?_setIfInBounds_ne (fun (e:b=k)=>hk (by rw [e]))⟩ (fun b' hb=>by cases hb;exact k6) (fun b' o v hv=> ?_) (fun it hit b' hb'=>⟨fun e=> ?_,fun _=>rfl⟩) h.fresh) ?_ ?_
  ·by_cases e:b'=b
   ·subst e;rw [k5 o] at hv;cases hv
   ·exact .inl ⟨hv,fun x=>e (Option.some.inj x)⟩
  ·cases e;exact hne it hit hb'
  ·exact⟨b,p,s,vs',c',hl,by simp [hlt],hv,k5,k6⟩
  ·intro b' hb' x hx;simp [Item.blk,Item.id?,hl] at hb';subst hb';exact hne x hx
section
variable {P:Program} {σ:Fr} {st:List Item} {i:Nat} {d:Option Tmp} {ty:TypeId} {pos:String} {after:Array Edge} {gd:Option (Nat×Bool)} {w:World}
theorem y_makeMap {T:TypeId}:Yields P ⟨d,.makeMap T none,ty,pos,after,gd⟩ σ st i (.mapv i) (.map i []::st):=fun F g a w hw hi hs=>by
  refine goes_value (u:= .map (some w.heap.size)) (w':=w.alloc (.map #[] 0)) ?_ ⟨_,Ghost.to_setLoc hi,hw.allocMap hi,AV.mapv_holds.2 ⟨_,_,_,Ghost.setLoc_same,rfl⟩⟩;simp [execOp,Instr.makeMap]
theorem findNow_int {kk:IntKind} (k:Int): ∀ (es:List (Int×AV)) (r:List MapEntry) (n:Nat) {g:Ghost},mapOk g es r→
  (∃ j v e,Instr.findNow (.int kk) (.int .i64 k) r n=some (some (n+j,e.val))∧r[j]?=some e∧e.key= .int .i64 k∧getM es k=some v∧v.holds g e.val)∨(Instr.findNow (.int kk) (.int .i64 k) r n=some none∧getM es k=none)
  | [],[],n,g,_=> .inr ⟨rfl,rfl⟩
  | (k',v)::es,e::r,n,g,⟨h1,h2,h3⟩=>by
   by_cases hk:k=k'
   ·subst hk;left;exact⟨0,v,e,by simp [Instr.findNow,h1,Instr.sameNow],rfl,h1,by simp [getM],h2⟩
   ·have hf:Instr.findNow (.int kk) (.int .i64 k) (e::r) n=Instr.findNow (.int kk) (.int .i64 k) r (n+1):=by
     have hb:(k==k')=false:=by simpa using hk
     simp [Instr.findNow,h1,Instr.sameNow,hb]
    rcases findNow_int k es r (n+1) h3 with ⟨j,v',e',a,b,c,d,f⟩|⟨a,b⟩
    ·left;exact⟨j+1,v',e',by rw [hf,a];congr 3;omega,by simpa using b,c,by simp [getM,hk,d],f⟩
    ·right;exact⟨by rw [hf,a],by simp [getM,hk,b]⟩
class MapT (P:Program) (T:TypeId) (E:outParam TypeId):Prop where
  out: ∃ K,P.underlying T=some (.map K E)∧P.underlying K=some (.int .i64)
theorem run_checkKey_int {e:Bool} {K:TypeId} {kk:IntKind} {v:Value} (h:P.underlying K=some (.int kk)):(Instr.checkKey e 10000 K v).run P w= .ok () w:=by
  show (Instr.checkKey e (9999+1) K v).run P w=_;rw [Instr.checkKey];simp [run_underlying h]
theorem map_item {g:Ghost} {st st' F:List Item} {j:Nat} {es:List (Int×AV)} {w:World} (hw:RelW g (st++F) w) (ht:Take st (.map j es) st') {b p s:Nat} (hl:g.loc j=some (b,p,s)):
  ∃ vs c,w.heap[b]?=some (.map vs c)∧mapOk g es vs.toList:=by
  obtain⟨b',p',s',vs,E,h1,h2,h3,_⟩:=(hw.take ht).items _ (List.mem_cons_self ..);rw [hl] at h1;cases h1;exact⟨vs,E,h2,h3⟩
theorem run_findKey_int {K:TypeId} {kk:IntKind} {k:Int} {r:List MapEntry} {x:Option (Nat×Value)} (h:P.underlying K=some (.int kk)) (hf:Instr.findNow (.int kk) (.int .i64 k) r 0=some x):(Instr.findKey K (.int .i64 k) r).run P w= .ok x w:=by
  simp [Instr.findKey,run_underlying h,hf]
theorem y_lookupOk {T E j:Nat} {x y:Operand} {es:List (Int×AV)} {st':List Item} {k:Int} {v:AV} [hm:MapT P T E] (hx:Ev σ x (.mapv j)) (hy:Ev σ y (.int k)) (ht:Take st (.map j es) st') (hv:getM es k=some v):
  Yields P ⟨d,.lookup T x y true,ty,pos,after,gd⟩ σ st i (.tup [v,.bool true]) st:=fun F g a w hw hi hs=>by
  obtain⟨K,h1,h2⟩:=hm.out;obtain⟨b,p,s,hl,e⟩:=AV.mapv_holds.1 (hx.holds hs (by simp [Op.operands]));have ey:=AV.val_holds.1 (hy.holds hs (by simp [Op.operands]));obtain⟨vs,c,hb,hok⟩:=map_item hw ht hl;rcases findNow_int (kk:= .i64) k es vs.toList 0 hok with ⟨q,v',e',a1,_,_,a2,a3⟩|⟨_,a2⟩
  ·rw [hv] at a2;cases a2;refine goes_value (u:= .tuple #[e'.val,.bool true]) ?_ ⟨g,Ghost.to.refl g i,hw,AV.tup_holds.2 ⟨[e'.val,.bool true],rfl,a3,AV.val_self _,trivial⟩⟩;simp [execOp,e,ey,Instr.lookup,run_underlying h1,MapKept.run_getObj_map hb,run_checkKey_int h2,run_findKey_int h2 a1]
  ·rw [hv] at a2;cases a2
theorem y_lookupNo {T E j:Nat} {x y:Operand} {es:List (Int×AV)} {st':List Item} {k:Int} {z:Value} [hm:MapT P T E] (hz:(P.info? E).bind (·.zero)=some z) (hx:Ev σ x (.mapv j)) (hy:Ev σ y (.int k)) (ht:Take st (.map j es) st') (hv:getM es k=none):
  Yields P ⟨d,.lookup T x y true,ty,pos,after,gd⟩ σ st i (.tup [.val z,.bool false]) st:=fun F g a w hw hi hs=>by
  obtain⟨K,h1,h2⟩:=hm.out;obtain⟨b,p,s,hl,e⟩:=AV.mapv_holds.1 (hx.holds hs (by simp [Op.operands]));have ey:=AV.val_holds.1 (hy.holds hs (by simp [Op.operands]));obtain⟨vs,c,hb,hok⟩:=map_item hw ht hl;rcases findNow_int (kk:= .i64) k es vs.toList 0 hok with ⟨q,v',e',a1,_,_,a2,a3⟩|⟨a1,a2⟩
  ·rw [hv] at a2;cases a2
  ·refine goes_value (u:= .tuple #[z,.bool false]) ?_ ⟨g,Ghost.to.refl g i,hw,AV.tup_holds.2 ⟨[z,.bool false],rfl,AV.val_self _,AV.val_self _,trivial⟩⟩;cases hi:P.info? E with
   |none=>simp [hi] at hz
   |some inf=>
    simp [hi] at hz;simp [execOp,e,ey,Instr.lookup,run_underlying h1,MapKept.run_getObj_map hb,run_checkKey_int h2,run_findKey_int h2 a1,zeroValue,typeInfo,hi,hz]
theorem y_lookup1 {T E j:Nat} {x y:Operand} {es:List (Int×AV)} {st':List Item} {k:Int} {v:AV} [hm:MapT P T E] (hx:Ev σ x (.mapv j)) (hy:Ev σ y (.int k)) (ht:Take st (.map j es) st') (hv:getM es k=some v):
  Yields P ⟨d,.lookup T x y false,ty,pos,after,gd⟩ σ st i v st:=fun F g a w hw hi hs=>by
  obtain⟨K,h1,h2⟩:=hm.out;obtain⟨b,p,s,hl,e⟩:=AV.mapv_holds.1 (hx.holds hs (by simp [Op.operands]));have ey:=AV.val_holds.1 (hy.holds hs (by simp [Op.operands]));obtain⟨vs,c,hb,hok⟩:=map_item hw ht hl;rcases findNow_int (kk:= .i64) k es vs.toList 0 hok with ⟨q,v',e',a1,_,_,a2,a3⟩|⟨_,a2⟩
  ·rw [hv] at a2;cases a2;refine goes_value (u:=e'.val) ?_ ⟨g,Ghost.to.refl g i,hw,a3⟩;simp [execOp,e,ey,Instr.lookup,run_underlying h1,MapKept.run_getObj_map hb,run_checkKey_int h2,run_findKey_int h2 a1]
  ·rw [hv] at a2;cases a2
theorem mapOk_push {g:Ghost} {k:Int} {v:AV} {u:Value} {n:Nat} (hv:v.holds g u): ∀ {es:List (Int×AV)} {r:List MapEntry},mapOk g es r→getM es k=none→mapOk g (setM es k v) (r++[{key:= .int .i64 k,val:=u,born:=n}])
  | [],[],_,_=>⟨rfl,hv,trivial⟩
  | (k',v')::es,e::r,⟨a,b,c⟩,h=>by
   simp only [getM] at h;by_cases hk:k=k'
   ·rw [if_pos hk] at h;cases h
   ·rw [if_neg hk] at h;simp only [setM,if_neg hk];exact⟨a,b,mapOk_push hv c h⟩
theorem mapOk_set {g:Ghost} {k:Int} {v:AV} {u:Value} (hv:v.holds g u): ∀ {es:List (Int×AV)} {r:List MapEntry} {j n m:Nat} {kk:IntKind} {x:Value},mapOk g es r→Instr.findNow (.int kk) (.int .i64 k) r n=some (some (m,x))→m=n+j→
  mapOk g (setM es k v) (r.modify j fun e=>{e with key:= .int .i64 k,val:=u})
  | [],[],j,n,m,kk,x,_,h,_=>by simp [Instr.findNow] at h
  | (k',v')::es,e::r,j,n,m,kk,x,⟨a,b,c⟩,h,hm=>by
   by_cases hk:k=k'
   ·subst hk;simp [Instr.findNow,a,Instr.sameNow] at h;obtain rfl:j=0:=by omega
    simp only [setM,if_pos];exact⟨rfl,hv,c⟩
   ·have hf:Instr.findNow (.int kk) (.int .i64 k) (e::r) n=Instr.findNow (.int kk) (.int .i64 k) r (n+1):=by
     have hb:(k==k')=false:=by simpa using hk
     simp [Instr.findNow,a,Instr.sameNow,hb]
    rw [hf] at h;have hge: ∀ (r:List MapEntry) (n m:Nat) (x:Value),Instr.findNow (.int kk) (.int .i64 k) r n=some (some (m,x))→n≤m:=by
     intro r;induction r with
     |nil=>intro n m x h;simp [Instr.findNow] at h
     |cons e r ih=>
      intro n m x h;simp only [Instr.findNow] at h;split at h
      ·simp at h;omega
      ·have:=ih _ _ _ h;omega
      ·cases h
    have h1:=hge _ _ _ _ h;cases j with
    |zero=>omega
    |succ j=>
     simp only [setM,if_neg hk,List.modify_succ_cons];exact⟨a,b,mapOk_set hv c h (by omega)⟩
theorem y_mapSet {T E j:Nat} {x y z:Operand} {es:List (Int×AV)} {st':List Item} {k:Int} {v:AV} [hm:MapT P T E] (hx:Ev σ x (.mapv j)) (hy:Ev σ y (.int k)) (hzv:Ev σ z v) {op:Op} (hop:op= .mapUpdate T x y z∨op= .insert T x y z) (hu:Upd st (.map j es) (.map j (setM es k v)) st'):
  Yields P ⟨d,op,ty,pos,after,gd⟩ σ st i (.val undef) st':=fun F g a w hw hi hs=>by
  obtain⟨K,h1,h2⟩:=hm.out;have hmem:x∈op.operands∧y∈op.operands∧z∈op.operands:=by rcases hop with rfl|rfl<;>simp [Op.operands]
  obtain⟨b,p,s,hl,e⟩:=AV.mapv_holds.1 (hx.holds hs hmem.1);have ey:=AV.val_holds.1 (hy.holds hs hmem.2.1);have ez:=hzv.holds hs hmem.2.2;obtain⟨r,p1,p2⟩:=hu.perm;have hw1:RelW g (.map j es::(r++F)) w:=hw.perm (p1.append_right F);obtain⟨b',p',s',vs,c,q1,q2,q3,q5,q6⟩:=hw1.items _ (List.mem_cons_self ..);rw [hl] at q1;cases q1;have hexec:(execOp a.eval ⟨d,op,ty,pos,after,gd⟩)=(do Instr.mapUpdate T (a.eval x) (a.eval y) (a.eval z);pure .skip):=by rcases hop with rfl|rfl<;>rfl
  rcases findNow_int (kk:= .i64) k es vs.toList 0 q3 with ⟨q,v',e',a1,a0,a4,a2,a3⟩|⟨a1,a2⟩
  ·have h3:=hw1.storeMap (es':=setM es k v) hl (vs':=vs.modify q fun e=>{e with key:= .int .i64 k,val:=a.eval z}) (c':=c) (by
    rw [Array.toList_modify];exact mapOk_set ez q3 a1 rfl)
   refine goes_skip (w':={w with heap:=w.heap.setIfInBounds b (.map (vs.modify q fun e=>{e with key:= .int .i64 k,val:=a.eval z}) c)}) ?_ ⟨g,Ghost.to.refl g i,h3.perm (p2.append_right F).symm,AV.val_self _⟩;have a0':vs[q]?=some e':=by simpa using a0
   have hkey:((vs[q]?).map (·.key)).getD (.int .i64 k)= .int .i64 k:=by rw [a0'];simpa using a4
   rw [hexec];simp only [Nat.zero_add] at a1;have hsame:Instr.sameBits 10000 (.int .i64 k) (.int .i64 k)=true:=by simp [Instr.sameBits]
   simp [e,ey,Instr.mapUpdate,run_underlying h1,MapKept.run_getObj_map q2,run_checkKey_int h2,run_findKey_int h2 a1,hkey,Instr.keyThatStays,hsame,MapKept.run_setObj_map _ q2]
  ·have h3:=hw1.storeMap (es':=setM es k v) hl (vs':=vs.push {key:= .int .i64 k,val:=a.eval z,born:=c}) (c':=c+1) (by
    rw [Array.toList_push];exact mapOk_push ez q3 a2)
   refine goes_skip (w':={w with heap:=w.heap.setIfInBounds b (.map (vs.push {key:= .int .i64 k,val:=a.eval z,born:=c}) (c+1))}) ?_ ⟨g,Ghost.to.refl g i,h3.perm (p2.append_right F).symm,AV.val_self _⟩;rw [hexec];simp [e,ey,Instr.mapUpdate,run_underlying h1,MapKept.run_getObj_map q2,run_checkKey_int h2,run_findKey_int h2 a1,MapKept.run_setObj_map _ q2]
end
end Go.Aw
namespace Go.Aw
open Go.RowKit (Below)
section
variable {P:Program} {σ:Fr} {st:List Item} {i:Nat} {d:Option Tmp} {ty:TypeId} {pos:String} {after:Array Edge} {gd:Option (Nat×Bool)} {w:World}
theorem y_sliceArrLo {T E sz by_ j off n:Nat} {x lo:Operand} {k:IntKind} {q:Int} [ht:SliceT P T E sz by_] (hx:Ev σ x (.arr j off n)) (hlo:Ev σ lo (.val (.int k q))) {l:Nat} (e:q=(l:Int)) (h:l<n):
  Yields P ⟨d,.slice T x (some lo) none none,ty,pos,after,gd⟩ σ st i (.arr j (off+l*sz) (n - l)) st:=fun F g a w hw hi hs=>by
  subst e;obtain⟨b,p,s,cap,hl,e,hc⟩:=AV.arr_holds.1 (hx.holds hs (by simp [Op.operands]));have e2:=AV.val_holds.1 (hlo.holds hs (by simp [Op.operands]));have hr:=run_slice_lo (P:=P) (T:=T) (w:=w) (some ⟨b,off,none⟩) n cap l k (Nat.le_of_lt h) hc;rw [if_neg (by omega)] at hr;refine goes_value (u:= .slice (some ⟨b,off+l*sz,none⟩) (n - l) (cap - l)) ?_ ⟨g,Ghost.to.refl g i,hw,AV.arr_holds.2 ⟨b,p,s,cap - l,hl,rfl,by omega⟩⟩;simp only [execOp,e,e2,Option.map_some,Option.map_none];rw [Sem.run_bind,hr];simp [Addr.add_mk]
theorem y_sliceArrHi {T E sz by_ j off n:Nat} {x hi':Operand} {k:IntKind} {q:Int} [ht:SliceT P T E sz by_] (hx:Ev σ x (.arr j off n)) (hhi:Ev σ hi' (.val (.int k q))) {h:Nat} (e:q=(h:Int)) (hh:h≤n):
  Yields P ⟨d,.slice T x none (some hi') none,ty,pos,after,gd⟩ σ st i (.arr j off h) st:=fun F g a w hw hi hs=>by
  subst e;obtain⟨b,p,s,cap,hl,e,hc⟩:=AV.arr_holds.1 (hx.holds hs (by simp [Op.operands]));have e2:=AV.val_holds.1 (hhi.holds hs (by simp [Op.operands]));have hr:=run_slice_hi (P:=P) (T:=T) (w:=w) (some ⟨b,off,none⟩) n cap h k (by omega);have hif:(if cap=0 then some (⟨b,off,none⟩:Addr) else (some (⟨b,off,none⟩:Addr)).map (·.add (0*sz)))=some ⟨b,off,none⟩:=by split<;>simp [Addr.add_mk]
  rw [hif] at hr;refine goes_value (u:= .slice (some ⟨b,off,none⟩) h cap) ?_ ⟨g,Ghost.to.refl g i,hw,AV.arr_holds.2 ⟨b,p,s,cap,hl,rfl,by omega⟩⟩;simp only [execOp,e,e2,Option.map_some,Option.map_none];rw [Sem.run_bind,hr];rfl
theorem y_copy {T E sz by_ T' j off n:Nat} {x y:Operand} {av:AV} {ys:List (List AV)} {cs:List AV} {st':List Item} [ht:SliceT P T E sz by_] [hr:Rd av sz ys] (hx:Ev σ x (.arr j off n)) (hy:Ev σ y av) {m:Nat} (hm:m=min ys.length n)
  (hu:Upd st (.cells j cs) (.cells j (setMany cs off (ys.take m).flatten)) st') (hfit:off+m*sz≤cs.length):
  Yields P ⟨d,.call {callee:= .builtin .copy,args:= #[x,y],argTypes:= #[T,T']},ty,pos,after,gd⟩ σ st i (.int (m:Int)) st':=fun F g a w hw hi hs=>by
  obtain⟨b,p,s,cap,hl,ex,hc⟩:=AV.arr_holds.1 (hx.holds hs (by simp [Op.operands,Call.operands]));obtain⟨ad,cap',ey,hc',hlen,hrow⟩:=AV.sl_holds.1 (hr.imp _ _ (hy.holds hs (by simp [Op.operands,Call.operands])));obtain⟨r,p1,p2⟩:=hu.perm;have hw1:RelW g (.cells j cs::(r++F)) w:=hw.perm (p1.append_right F);obtain⟨b',p',s',vs,E',h1,h2,h3,h4,h5,h6⟩:=hw1.items _ (List.mem_cons_self ..);rw [hl] at h1;cases h1;have hl1:=h3.length;have hlt: ∀ z∈ys.take m,z.length=sz:=fun z hz=>hlen z (List.mem_of_mem_take hz);have hml:(ys.take m).length=m:=by rw [List.length_take];omega
  have hfl:(ys.take m).flatten.length=m*sz:=by rw [flatten_len hlt,hml]
  have hnews: ∃ news:List Value,holdsL g (ys.take m).flatten news∧(∀ u∈news,u.oneCell'=true)∧(Builtin.firstCells sz m (.slice ad ys.length cap')).run P w= .ok news.toArray w:=by
   rcases Classical.em (ys=[]) with hys|hys
   ·subst hys;have hm0:m=0:=by simp at hm;omega
    subst hm0;refine⟨[],trivial,by simp,?_⟩;cases ad with
    |none=>simp [Builtin.firstCells]
    |some ad=>simp [Builtin.firstCells,loadCells,loadCellsFrom]
   ·obtain⟨b0,o0,rfl,hrow0⟩:=hrow hys;have hrt:comRow g b0 o0 (ys.take m).flatten:=by rw [flatten_take hlen];exact hrow0.take _
    obtain⟨news,n1,n2,n3⟩:=hrt.values;exact⟨news,n1,n2,run_firstCells_some (P:=P) w sz m _ _ _ news (by rw [←n1.length,hfl]) (fun q u hq=>by rw [Addr.add_mk];exact hw.com _ _ _ (n3 q u hq))⟩
  obtain⟨news,n1,n2,n3⟩:=hnews;have hln:news.length=m*sz:=by rw [←n1.length,hfl]
  have hst:=run_storeCells_at P b off E' news 0 vs w h2 (by simp at hl1;omega) n2;simp only [Nat.add_zero] at hst;have h7:=hw1.storeCells (cs':=setMany cs off (ys.take m).flatten) hl (vs':=(setMany vs.toList off news).toArray) (h3.setMany off n1) (fun u hu=>by
   simp only [setMany,List.mem_append] at hu;rcases hu with (hu|hu)|hu
   ·exact h4 u (List.mem_of_mem_take hu)
   ·exact n2 u hu
   ·exact h4 u (List.mem_of_mem_drop hu))
  refine goes_value (u:= .int .i64 (m:Int)) (w':=w.setRow b (setMany vs.toList off news).toArray) ?_ ⟨g,Ghost.to.refl g i,h7.perm (p2.append_right F).symm,AV.val_self _⟩;have hmin:Nat.min ys.length n=m:=hm.symm;simp only [execOp,resolve,Sem.run_bind,Sem.run_pure,Result.andThen_ok,invoke,builtin];simp only [List.map_toArray,List.map_cons,List.map_nil,ex,ey];simp [Builtin.copy_,run_underlying ht.und,run_sizeOf ht.hsize,Builtin.lenOf,hmin,n3,hst,setMany,goInt]
theorem y_convertN {T T':TypeId} {x:Operand} {k k':IntKind} {a:Int} (hT:(P.underlying T).isSome=true) (hT':P.underlying T'=some (.int k')) (hx:Ev σ x (.val (.int k a))) (h:k'.wrap a=a):Yields P ⟨d,.convert T T' x,ty,pos,after,gd⟩ σ st i (.val (.int k' a)) st:=by
  have:=y_convert (P:=P) (st:=st) (i:=i) (d:=d) (ty:=ty) (pos:=pos) (after:=after) (gd:=gd) hT hT' hx;rwa [h] at this
theorem y_nilPtr {x:Operand} {j off:Nat} (hx:Ev σ x (.ptr j off)):Yields P ⟨d,.nilCheck x,ty,pos,after,gd⟩ σ st i (.ptr j off) st:=fun F g a w hw hi hs=>by
  have hh:=hx.holds hs (by simp [Op.operands]);obtain⟨b,p,s,hl,e⟩:=AV.ptr_holds.1 hh;exact goes_value (u:= .pointer (some ⟨b,off,none⟩)) (by simp [execOp,e]) ⟨g,Ghost.to.refl g i,hw,AV.ptr_holds.2 ⟨b,p,s,hl,rfl⟩⟩
end
section ops
variable {P:Program} {n:Nat} {ops:Array Oper} {rest:List Oper} {σ:Fr} {st:List Item} {K:Fr→List Item→Prop} {op:Op} {ty:TypeId} {pos:String} {after:Array Edge}
theorem st_w {d:Nat} {v:AV} {st':List Item} (hy: ∀ i,Yields P ⟨some d,op,ty,pos,after,none⟩ σ st i v st') (hd:Nat.blt d n=true) (h:AOps P n ops rest ((d,v)::σ) st' K):AOps P n ops (⟨some d,op,ty,pos,after,none⟩::rest) σ st K:=
  aops_new (v:=fun _=>v) (st':=fun _=>st') (blt_lt hd) (fun i=>(hy i).plain rfl) fun _=>h
end ops
theorem awp_items {P:Program} {n:Nat} {c:Code} {σ:Fr} {st st':List Item} {Q:Exit→Fr→List Item→Prop} (h:st=st') (k:AWP P n c σ st' Q):AWP P n c σ st Q:=h ▸ k
theorem rep_len {α:Type} (n:Nat) (r:List α):(List.replicate n r).flatten.length=n*r.length:=by simp [List.length_flatten]
end Go.Aw
