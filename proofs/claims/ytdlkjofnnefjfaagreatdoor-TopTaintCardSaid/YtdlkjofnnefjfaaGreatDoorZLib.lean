/- More layings of the library at this translation, in plain words by the tool of the kit. What the package-level variables hold, and the library's contracts in one form: the result, and nothing that lay before has turned. Hosts, addresses, origins, requests as plain data, how they lie in cells, and what '==' says of hosts, origins and eight numbers. -/
import Derived.Shelf.SlGeneric
import Derived.Shelf.Strings.SlTrimAscii
import Derived.Shelf.SlicesQ.IndexFunc
import Derived.Shelf.SlicesE.Clone
import Derived.Ground.SlgfProg
import Derived.Ground.SlgnProg
import Derived.Test.YtdlkjofnnefjfaaGreatDoorZShelfA
import Derived.Test.YtdlkjofnnefjfaaGreatDoorZAsciiA
import Derived.Test.YtdlkjofnnefjfaaGreatDoorZPctB
import Derived.Laws.StructEq
set_option linter.all false
namespace Go.Proofs.YtdlkjofnnefjfaaGreatDoor
set_option maxRecDepth 100000
section
open Go.Shelf
open Go.RowKit Go.Lib in
theorem Tryz.strings_Trim_laid (s cutset:ByteArray) (w:World) (hs:s.size≤9223372036854775807) (hcs:cutset.size < 4294967281) (hascii:∀ (j:Nat) b,cutset.data.toList[j]? = some b→b.toNat < 128) :
  Calls Tryz.prog 28 #[.string s,.string cutset] w fun e w'=>e=.returned (.string ⟨(Lib.trimS s.data.toList cutset.data.toList).toArray⟩)∧Below w.heap.size w w':=Any.strings_Trim_laid Tryz.lays160 (by kernel_rfl) s cutset w hs hcs hascii
def Tryz.laysSlE041_f24_ren:Go.Shelf.Ren:=⟨fun|41=>24|n=>n,fun|22=>28|23=>72|4=>4|n=>n,fun|n=>n⟩
theorem Tryz.laysSlE041_f24:Go.Proofs.SlLaysE0.n41 Tryz.prog Tryz.laysSlE041_f24_ren:={
 mixed:=by kernel_rfl
 f41:=⟨Tryz.f24.name,by decide,Tryz.func24.trans (congrArg some (by kernel_rfl))⟩
 t4:=Tryz.underlying4
 a4:=Tryz.isAgg4
 z4:=Tryz.sizeOf4
 v4:=Tryz.zeroValue4
 t22:=Tryz.underlying28
 a22:=Tryz.isAgg28
 z22:=Tryz.sizeOf28
 v22:=Tryz.zeroValue28 }
open Go.RowKit Go.Lib in
theorem Tryz.slices_Clone_fields (i0:TypeInfo) (z:Value) (size bytes:Nat) (hi:Tryz.prog.info? 72=some i0) (hz0:i0.zero=some z) (hz1:i0.size=size) (hz2:i0.bytes=bytes) (hzs:z.cells.size=size) (hsz:0 < size) (z23:∀ w,(Go.sizeOf 72).run Tryz.prog w=.ok size w) (b off n c:Nat) (news:List Value) (w:World) (hl:news.length=n * size) (hn:n≤maxLen) (hbig:n * bytes≤140737488355328) (hc:∀ j u,news[j]? = some u→w.cell? ⟨b,off + j,none⟩=some u) (h1:∀ u∈news,u.oneCell'=true) :
  Calls Tryz.prog 24 #[.slice (some ⟨b,off,none⟩) n c] w fun e w'=>∃ v',e=.returned v'∧w'.ownsRow w.heap.size 72 size v' n news∧v'≠.slice none 0 0∧Below w.heap.size w w':=AnyE.slices_Clone Tryz.laysSlE041_f24 i0 z size bytes hi hz0 hz1 hz2 hzs hsz z23 b off n c news w hl hn hbig hc h1
open Go.RowKit Go.Lib in
theorem Tryz.slices_Clone_fields_nil (n c:Nat) (w:World) :
  Calls Tryz.prog 24 #[.slice none n c] w fun e w'=>e=.returned (.slice none 0 0)∧w'=w:=AnyE.slices_Clone_nil Tryz.laysSlE041_f24 n c w
end
section
open Go.RowKit
def bodyNames:List ByteArray:=[⟨#[67,111,110,116,101,110,116,45,69,110,99,111,100,105,110,103]⟩,⟨#[67,111,110,116,101,110,116,45,76,97,110,103,117,97,103,101]⟩,⟨#[67,111,110,116,101,110,116,45,76,111,99,97,116,105,111,110]⟩,⟨#[67,111,110,116,101,110,116,45,84,121,112,101]⟩]
def polNames:List ByteArray:=[⟨#[]⟩,⟨#[110,111,45,114,101,102,101,114,114,101,114]⟩,⟨#[110,111,45,114,101,102,101,114,114,101,114,45,119,104,101,110,45,100,111,119,110,103,114,97,100,101]⟩,⟨#[115,97,109,101,45,111,114,105,103,105,110]⟩,⟨#[111,114,105,103,105,110]⟩,⟨#[115,116,114,105,99,116,45,111,114,105,103,105,110]⟩,⟨#[111,114,105,103,105,110,45,119,104,101,110,45,99,114,111,115,115,45,111,114,105,103,105,110]⟩,⟨#[115,116,114,105,99,116,45,111,114,105,103,105,110,45,119,104,101,110,45,99,114,111,115,115,45,111,114,105,103,105,110]⟩,⟨#[117,110,115,97,102,101,45,117,114,108]⟩]
structure Glob (w:World):Prop where
 err:w.cell? ⟨0,0,none⟩=some (.iface 251 (.agg #[.pointer (some ⟨6,123,none⟩)]))
 max:∃ m,w.cell? ⟨1,0,none⟩=some (.int .i64 m)
 bodies:∀ j,j < 4→w.cell? ⟨2,j,none⟩=some (.string (bodyNames.getD j ByteArray.empty))
 u8:Lib.Utf8Tabs 3 4 w
 names:∀ j,j < 9→w.cell? ⟨5,j,none⟩=some (.string (polNames.getD j ByteArray.empty))
 lt:6≤w.heap.size
theorem Glob.below {w w':World} (h:Glob w) (hb:Below w.heap.size w w'):Glob w':=by
 have hl:=h.lt
 have c:∀ b o,b < 6→w'.cell? ⟨b,o,none⟩=w.cell? ⟨b,o,none⟩:=fun b o hlt=>hb.cell (p:=⟨b,o,none⟩) (by simp;omega)
 refine⟨(c 0 0 (by omega)).trans h.err,?_,fun j hj=>(c 2 j (by omega)).trans (h.bodies j hj),⟨fun j hj=>(c 3 j (by omega)).trans (h.u8.1 j hj),fun i hi=>⟨(c 4 _ (by omega)).trans (h.u8.2 i hi).1,(c 4 _ (by omega)).trans (h.u8.2 i hi).2⟩⟩,fun j hj=>(c 5 j (by omega)).trans (h.names j hj),Nat.le_trans hl hb.size⟩
 obtain⟨m,hm⟩:=h.max
 exact⟨m,(c 1 0 (by omega)).trans hm⟩
theorem below_drew (w:World):Below w.heap.size w w.drew:=(Below.refl _ _).drew
theorem below_drewN (w:World) (n:Nat):Below w.heap.size w (w.drewN n):=⟨rfl,rfl,rfl,Nat.le_refl _,fun _ _=>rfl⟩
theorem cut_any (s sep:ByteArray) (w:World) (G:Glob w) (hs:s.size≤3000000) :
  Calls Tryz.prog 27 #[.string s,.string sep] w fun e w'=>e=.returned (.tuple #[.string (bs (Lib.cut s.data.toList sep.data.toList).1),.string (bs (Lib.cut s.data.toList sep.data.toList).2.1),.bool (Lib.cut s.data.toList sep.data.toList).2.2])∧Below w.heap.size w w':=by
 obtain⟨m,hm⟩:=G.max
 exact(Tryz.strings_Cut s sep m w (by omega) hm).mono fun e w' ⟨he,n,hn⟩=>⟨he,by rw[hn];exact below_drewN _ _⟩
theorem contains_any (s sub:ByteArray) (w:World) (G:Glob w) (hs:s.size≤3000000) :
  Calls Tryz.prog 119 #[.string s,.string sub] w fun e w'=>e=.returned (.bool (Lib.contains s.data.toList sub.data.toList))∧w=w':=by
 obtain⟨m,hm⟩:=G.max
 exact(Tryz.strings_Contains s sub m w (by omega) hm).mono fun e w' ⟨he,hn⟩=>⟨he,hn.symm⟩
theorem trimBlank_any (s:ByteArray) (w:World) (hs:s.size≤3000000) :
  Calls Tryz.prog 28 #[.string s,.string ⟨#[32,9]⟩] w fun e w'=>e=.returned (.string (bs (Lib.trimS s.data.toList [32,9])))∧Below w.heap.size w w' :=
 Tryz.strings_Trim_laid s ⟨#[32,9]⟩ w (by omega) (by decide) (ascii_of_all (by decide))
theorem indexByte_any (s:ByteArray) (c:UInt8) (w:World) :
  Calls Tryz.prog 100 #[.string s,.int .u8 c.toNat] w fun e w'=>e=.returned (.int .i64 (Lib.indexByte s.data.toList c))∧w=w':=by
 have h:=Tryz.strings_IndexByte s c.toNat w
 simp only[Int.toNat_natCast,UInt8.ofNat_toNat,Nat.toUInt8] at h
 exact h.mono fun e w' ⟨he,hw⟩=>⟨he,hw.symm⟩
theorem lastByte_any (s:ByteArray) (c:Int) (w:World) (hs:s.size≤3000000) :
  Calls Tryz.prog 101 #[.string s,.int .u8 c] w fun e w'=>e=.returned (.int .i64 (Lib.lastIndexByte s c))∧w=w' :=
 (Tryz.strings_LastIndexByte s c (by omega) w).mono fun e w' ⟨he,hw⟩=>⟨he,hw.symm⟩
theorem cutPrefix_any (s p:ByteArray) (w:World) :
  Calls Tryz.prog 99 #[.string s,.string p] w fun e w'=>e=.returned (.tuple #[.string (bs (Lib.trimPrefix s.data.toList p.data.toList)),.bool (Lib.hasPrefix s.data.toList p.data.toList)])∧w=w' :=
 (Tryz.strings_CutPrefix s p w).mono fun e w' ⟨he,hw⟩=>⟨he,hw.symm⟩
theorem cutSuffix_any (s p:ByteArray) (w:World) (hs:s.size≤3000000) :
  Calls Tryz.prog 208 #[.string s,.string p] w fun e w'=>e=.returned (.tuple #[.string (bs (Lib.trimSuffix s.data.toList p.data.toList)),.bool (Lib.hasSuffix s.data.toList p.data.toList)])∧w=w' :=
 (Tryz.strings_CutSuffix s p w (by omega)).mono fun e w' ⟨he,hw⟩=>⟨he,hw.symm⟩
theorem hasPrefix_any (s p:ByteArray) (w:World) :
  Calls Tryz.prog 155 #[.string s,.string p] w fun e w'=>e=.returned (.bool (Lib.hasPrefix s.data.toList p.data.toList))∧w=w' :=
 (Tryz.strings_HasPrefix s p w).mono fun e w' ⟨he,hw⟩=>⟨he,hw.symm⟩
theorem hasSuffix_any (s p:ByteArray) (w:World) (hs:s.size≤3000000) :
  Calls Tryz.prog 261 #[.string s,.string p] w fun e w'=>e=.returned (.bool (Lib.hasSuffix s.data.toList p.data.toList))∧w=w' :=
 (Tryz.strings_HasSuffix s p w (by omega)).mono fun e w' ⟨he,hw⟩=>⟨he,hw.symm⟩
theorem trimPrefix_any (s p:ByteArray) (w:World) :
  Calls Tryz.prog 215 #[.string s,.string p] w fun e w'=>e=.returned (.string (bs (Lib.trimPrefix s.data.toList p.data.toList)))∧w=w' :=
 (Tryz.strings_TrimPrefix s p w).mono fun e w' ⟨he,hw⟩=>⟨he,hw.symm⟩
theorem containsRune_any (s:ByteArray) (r:Int) (w:World) (h0:0≤r) (h1:r < 128) :
  Calls Tryz.prog 67 #[.string s,.int .i32 r] w fun e w'=>e=.returned (.bool (decide (0≤Lib.indexByte s.data.toList r.toNat.toUInt8)))∧w=w' :=
 (Tryz.strings_ContainsRune_ascii s r w h0 h1).mono fun e w' ⟨he,hw⟩=>⟨he,hw.symm⟩
theorem containsAny_any (s chars:ByteArray) (w:World) (hs:s.size≤3000000) (hc:chars.size≤100) (h1:∀ (j:Nat) b,s.data.toList[j]? = some b→b.toNat < 128) (h2:∀ (j:Nat) b,chars.data.toList[j]? = some b→b.toNat < 128) :
  Calls Tryz.prog 69 #[.string s,.string chars] w fun e w'=>e=.returned (.bool (Lib.containsAny s.data.toList chars.data.toList))∧Below w.heap.size w w' :=
 Tryz.strings_ContainsAny_laid s chars w (by omega) (by omega) h1 h2
def parts (sep s:ByteArray):List ByteArray:=Lib.splitB sep 0 (Lib.countB s sep) s
theorem parts_len (sep:ByteArray) (h1:1≤sep.size):∀ (n:Nat) (s:ByteArray),s.size≤n→(parts sep s).length=Lib.countB s sep + 1
 | n,s,hn=>by
  unfold parts
  rcases Lib.indexB_cases s sep with hix|⟨i,hix,hroom⟩
  ·rw[Lib.countB_miss s sep hix];rfl
  ·rw[Lib.countB_hit s sep i h1 hix,Nat.add_comm 1,Lib.splitB_hit sep 0 _ s i hix,List.length_cons]
   match n with
   | 0=>omega
   | n + 1 =>
    have hz:(s.extract (i + sep.size) s.size).size≤n:=by rw[ByteArray.size_extract];omega
    have:=parts_len sep h1 n (s.extract (i + sep.size) s.size) hz
    unfold parts at this
    rw[this]
theorem parts_size (sep:ByteArray):∀ (k:Nat) (s:ByteArray),∀ p∈Lib.splitB sep 0 k s,p.size≤s.size
 | 0,s,p,hp=>by
  rw[Lib.splitB_zero] at hp
  rw[List.mem_singleton.1 hp];exact Nat.le_refl _
 | k + 1,s,p,hp=>by
  rcases Lib.indexB_cases s sep with hix|⟨i,hix,hroom⟩
  ·rw[Lib.splitB_miss sep 0 _ s hix] at hp
   rw[List.mem_singleton.1 hp];exact Nat.le_refl _
  ·rw[Lib.splitB_hit sep 0 k s i hix] at hp
   rcases List.mem_cons.1 hp with rfl|hp
   ·rw[ByteArray.size_extract];omega
   ·have:=parts_size sep k _ p hp
    rw[ByteArray.size_extract] at this;omega
theorem split_any (s sep:ByteArray) (w:World) (G:Glob w) (hs:s.size≤3000000) (h1:1≤sep.size) :
  Calls Tryz.prog 214 #[.string s,.string sep] w fun e w'=>e=.returned (.slice (some ⟨w.heap.size,0,none⟩) (parts sep s).length (parts sep s).length)∧w.alloc (.cells ((parts sep s).map Value.string).toArray 9)=w':=by
 obtain⟨m,hm⟩:=G.max
 rw[parts_len sep h1 s.size s (Nat.le_refl _)]
 exact(Tryz.strings_Split s sep m w (by omega) hm h1).mono fun e w' ⟨he,hw⟩=>⟨he,hw.symm⟩
def Strs (w:World) (v:Value) (l:List ByteArray):Prop :=
 (v=.slice none 0 0∧l=[])∨∃ b off cap,v=.slice (some ⟨b,off,none⟩) l.length cap∧l.length≤cap∧cap≤maxLen∧b < w.heap.size∧∀ j,j < l.length→w.cell? ⟨b,off + j,none⟩=some (.string (l.getD j ByteArray.empty))
theorem Strs.below {w w':World} {v:Value} {l:List ByteArray} (h:Strs w v l) (hb:Below w.heap.size w w'):Strs w' v l:=by
 rcases h with h|⟨b,off,cap,hv,hl,hm,hlt,hc⟩
 ·exact .inl h
 ·exact .inr ⟨b,off,cap,hv,hl,hm,Nat.lt_of_lt_of_le hlt hb.size,fun j hj=>(hb.cell (p:=⟨b,off + j,none⟩) hlt).trans (hc j hj)⟩
theorem Strs.nil (w:World):Strs w (.slice none 0 0) []:=.inl ⟨rfl,rfl⟩
theorem Strs.of_own {w:World} {B:Nat} {v:Value} {l:List ByteArray} (h:w.ownsRow B 9 1 v l.length (l.map Value.string)):Strs w v l:=by
 obtain⟨h1,h2⟩:=h
 rcases h2 with ⟨rfl,h2⟩|⟨g,cap,cur,rfl,hg,hh,h3,h4,h5,h6⟩
 ·exact .inl ⟨rfl,List.length_eq_zero_iff.1 h2⟩
 ·refine .inr ⟨g,0,cap,rfl,h3,h4,heap_lt hh,fun j hj=>?_⟩
  rw[Nat.zero_add,Lib.cell_of_heap hh]
  have e:(cur.toList.take (l.length * 1))[j]? = some (.string (l.getD j ByteArray.empty)):=by rw[h6];simp[hj]
  rw[List.getElem?_take] at e
  split at e
  ·rwa [Array.getElem?_toList] at e
  ·cases e
end
section
open Go.RowKit
structure Six where
 (p0 p1 p2 p3 p4 p5 p6 p7:Int)
 deriving DecidableEq
structure Host where
 kind:Int
 name:ByteArray
 num:Int
 six:Six
 deriving DecidableEq
structure Url where
 scheme:ByteArray
 user:ByteArray
 pass:ByteArray
 host:Host
 port:Int
 path:List ByteArray
 opq:ByteArray
 query:ByteArray
 frag:ByteArray
 hasQ:Bool
 hasF:Bool
structure Orig where
 opq:Bool
 scheme:ByteArray
 host:Host
 port:Int
 deriving DecidableEq
def six0:Six:=⟨0,0,0,0,0,0,0,0⟩
def host0:Host:=⟨0,⟨#[]⟩,0,six0⟩
abbrev sixC (p:Six):Array Value:=#[.int .i64 p.p0,.int .i64 p.p1,.int .i64 p.p2,.int .i64 p.p3,.int .i64 p.p4,.int .i64 p.p5,.int .i64 p.p6,.int .i64 p.p7]
abbrev hostC (h:Host):Array Value:=#[.int .i64 h.kind,.string h.name,.int .i64 h.num,.int .i64 h.six.p0,.int .i64 h.six.p1,.int .i64 h.six.p2,.int .i64 h.six.p3,.int .i64 h.six.p4,.int .i64 h.six.p5,.int .i64 h.six.p6,.int .i64 h.six.p7]
abbrev urlC (u:Url) (p:Value):Array Value:=#[.string u.scheme,.string u.user,.string u.pass,.int .i64 u.host.kind,.string u.host.name,.int .i64 u.host.num,.int .i64 u.host.six.p0,.int .i64 u.host.six.p1,.int .i64 u.host.six.p2,.int .i64 u.host.six.p3,.int .i64 u.host.six.p4,.int .i64 u.host.six.p5,.int .i64 u.host.six.p6,.int .i64 u.host.six.p7,.int .i64 u.port,p,.string u.opq,.string u.query,.string u.frag,.bool u.hasQ,.bool u.hasF]
abbrev origC (o:Orig):Array Value:=#[.bool o.opq,.string o.scheme,.int .i64 o.host.kind,.string o.host.name,.int .i64 o.host.num,.int .i64 o.host.six.p0,.int .i64 o.host.six.p1,.int .i64 o.host.six.p2,.int .i64 o.host.six.p3,.int .i64 o.host.six.p4,.int .i64 o.host.six.p5,.int .i64 o.host.six.p6,.int .i64 o.host.six.p7,.int .i64 o.port]
theorem beq_str (a b:ByteArray):(a.data.toList == b.data.toList)=decide (a=b):=by rw[← beq_dec,toList_data,toList_data]
theorem part3 (cs:Array Value) (i:Nat) (v:Value) (w:World) (h:cs[i]? = some v):(part 3 cs i).run Tryz.prog w=.ok v w:=by
 simp[part,Tryz.isAgg3,h]
theorem int3 (d:Nat) (x y:Int) (w:World):(Op.equalIn (d + 1) 3 (.int .i64 x) (.int .i64 y)).run Tryz.prog w=.ok (x == y) w:=by
 simp[Op.equalIn,run_underlying Tryz.underlying3]
def eqRound (d:Nat) (xs ys:Array Value) (i:Nat):Sem (ForInStep (Option Bool×Unit)):=do
 let a ← part 3 xs i
 let b ← part 3 ys i
 let r ← Op.equalIn (d + 1) 3 a b
 if (!r)=true then pure (ForInStep.done (some false,())) else pure (ForInStep.yield (none,()))
theorem eqRound_run (d:Nat) (xs ys:Array Value) (i:Nat) (x y:Int) (w:World) (hx:xs[i]? = some (.int .i64 x)) (hy:ys[i]? = some (.int .i64 y)) :
  (eqRound d xs ys i).run Tryz.prog w=.ok (if x=y then ForInStep.yield (none,()) else ForInStep.done (some false,())) w:=by
 unfold eqRound
 simp only[Sem.run_bind,part3 _ _ _ _ hx,part3 _ _ _ _ hy,Result.andThen_ok,int3]
 by_cases h:x=y <;> simp[h]
theorem eq22 (d:Nat) (w:World) (a b:Six):(Op.equalIn (d + 2) 22 (.agg (sixC a)) (.agg (sixC b))).run Tryz.prog w=.ok (decide (a=b)) w:=by
 obtain⟨a0,a1,a2,a3,a4,a5,a6,a7⟩:=a
 obtain⟨b0,b1,b2,b3,b4,b5,b6,b7⟩:=b
 simp only[Six.mk.injEq]
 unfold Op.equalIn
 simp only[Sem.run_bind,run_underlying Tryz.underlying22,Result.andThen_ok,Tryz.sizeOf3,Std.Legacy.Range.forIn_eq_forIn_range',Nat.mul_one]
 change ((Sem.run Tryz.prog (forIn (List.range' 0 8) (none,()) fun i _=>eqRound d _ _ i) w).andThen _)=_
 rw[show List.range' 0 8=[0,1,2,3,4,5,6,7] from rfl]
 simp only[List.forIn_cons,List.forIn_nil,Sem.run_bind]
 rw[eqRound_run d _ _ 0 a0 b0 w rfl rfl]
 by_cases h0:a0=b0 <;> simp only[h0,if_true,if_false,Result.andThen_ok,Sem.run_bind] <;> try simp
 rw[eqRound_run d _ _ 1 a1 b1 w rfl rfl]
 by_cases h1:a1=b1 <;> simp only[h1,if_true,if_false,Result.andThen_ok,Sem.run_bind] <;> try simp
 rw[eqRound_run d _ _ 2 a2 b2 w rfl rfl]
 by_cases h2:a2=b2 <;> simp only[h2,if_true,if_false,Result.andThen_ok,Sem.run_bind] <;> try simp
 rw[eqRound_run d _ _ 3 a3 b3 w rfl rfl]
 by_cases h3:a3=b3 <;> simp only[h3,if_true,if_false,Result.andThen_ok,Sem.run_bind] <;> try simp
 rw[eqRound_run d _ _ 4 a4 b4 w rfl rfl]
 by_cases h4:a4=b4 <;> simp only[h4,if_true,if_false,Result.andThen_ok,Sem.run_bind] <;> try simp
 rw[eqRound_run d _ _ 5 a5 b5 w rfl rfl]
 by_cases h5:a5=b5 <;> simp only[h5,if_true,if_false,Result.andThen_ok,Sem.run_bind] <;> try simp
 rw[eqRound_run d _ _ 6 a6 b6 w rfl rfl]
 by_cases h6:a6=b6 <;> simp only[h6,if_true,if_false,Result.andThen_ok,Sem.run_bind] <;> try simp
 rw[eqRound_run d _ _ 7 a7 b7 w rfl rfl]
 by_cases h7:a7=b7 <;> simp[h7]
theorem part9 (cs:Array Value) (i:Nat) (v:Value) (w:World) (h:cs[i]? = some v):(part 9 cs i).run Tryz.prog w=.ok v w:=by
 simp[part,Tryz.isAgg9,h]
theorem part4 (cs:Array Value) (i:Nat) (v:Value) (w:World) (h:cs[i]? = some v):(part 4 cs i).run Tryz.prog w=.ok v w:=by
 simp[part,Tryz.isAgg4,h]
theorem part22 (cs:Array Value) (i:Nat) (v:Array Value) (w:World) (h:cs.extract i (i + 8)=v):(part 22 cs i).run Tryz.prog w=.ok (.agg v) w:=by
 simp[part,Tryz.isAgg22,Tryz.sizeOf22,h]
theorem part24 (cs:Array Value) (i:Nat) (v:Array Value) (w:World) (h:cs.extract i (i + 11)=v):(part 24 cs i).run Tryz.prog w=.ok (.agg v) w:=by
 simp[part,Tryz.isAgg24,Tryz.sizeOf24,h]
theorem str9 (d:Nat) (x y:ByteArray) (w:World):(Op.equalIn (d + 1) 9 (.string x) (.string y)).run Tryz.prog w=.ok (decide (x=y)) w:=by
 simp[Op.equalIn,run_underlying Tryz.underlying9,beq_toListBytes,beq_dec]
theorem bool4 (d:Nat) (x y:Bool) (w:World):(Op.equalIn (d + 1) 4 (.bool x) (.bool y)).run Tryz.prog w=.ok (x == y) w:=by
 simp[Op.equalIn,run_underlying Tryz.underlying4]
theorem field_step {d:Nat} {xs ys:Array Value} {f:Field} {fs:List Field} {w:World} {a b:Value} {r:Bool} (hn:f.name ≠ "_") (ha:(part f.type xs f.offset).run Tryz.prog w=.ok a w) (hb:(part f.type ys f.offset).run Tryz.prog w=.ok b w)
  (he:(Op.equalIn d f.type a b).run Tryz.prog w=.ok r w):(Op.eqFields d xs ys (f::fs)).run Tryz.prog w=(if r=true then (Op.eqFields d xs ys fs).run Tryz.prog w else .ok false w):=by
 conv=>lhs;unfold Op.eqFields
 rw[if_pos hn]
 simp only[Sem.run_bind,ha,hb,he,Result.andThen_ok]
 cases r <;> simp
theorem cut24 (k:Int) (n:ByteArray) (m:Int) (s:Six):(hostC ⟨k,n,m,s⟩).extract 3 (3 + 8)=sixC s:=by simp[hostC,sixC]
theorem cut30 (k:Bool) (n:ByteArray) (m:Host) (s:Int):(origC ⟨k,n,m,s⟩).extract 2 (2 + 11)=hostC m:=by simp[origC,hostC]
theorem eq24 (d:Nat) (w:World) (a b:Host):(Op.equalIn (d + 4) 24 (.agg (hostC a)) (.agg (hostC b))).run Tryz.prog w=.ok (decide (a=b)) w:=by
 obtain⟨k,n,m,s⟩:=a
 obtain⟨k',n',m',s'⟩:=b
 rw[run_equalIn_struct w (d + 3) 24 _ _ (by kernel_rfl) (by kernel_rfl)]
 rw[show (Tryz.prog.fieldsOf 24).toList=_ from congrArg Array.toList (show Tryz.prog.fieldsOf 24=_ by unfold Program.fieldsOf;rw[Tryz.underlying24])]
 simp only[Host.mk.injEq]
 refine Eq.trans (field_step (by decide) (part3 _ _ _ _ rfl) (part3 _ _ _ _ rfl) (int3 _ _ _ _)) ?_
 by_cases h0:k=k'
 ·rw[if_pos (by simpa using h0)]
  refine Eq.trans (field_step (by decide) (part9 _ _ _ _ rfl) (part9 _ _ _ _ rfl) (str9 _ _ _ _)) ?_
  by_cases h1:n=n'
  ·rw[if_pos (by simpa using h1)]
   refine Eq.trans (field_step (by decide) (part3 _ _ _ _ rfl) (part3 _ _ _ _ rfl) (int3 _ _ _ _)) ?_
   by_cases h2:m=m'
   ·rw[if_pos (by simpa using h2)]
    have p1:(part 22 (hostC ⟨k,n,m,s⟩) 3).run Tryz.prog w=.ok (.agg (sixC s)) w:=part22 _ _ _ _ (cut24 k n m s)
    have p2:(part 22 (hostC ⟨k',n',m',s'⟩) 3).run Tryz.prog w=.ok (.agg (sixC s')) w:=part22 _ _ _ _ (cut24 k' n' m' s')
    refine Eq.trans (field_step (by decide) p1 p2 (eq22 (d + 1) w s s')) ?_
    by_cases h3:s=s'
    ·rw[if_pos (by simpa using h3)];simp[Op.eqFields,h0,h1,h2,h3]
    ·rw[if_neg (by simpa using h3)];simp[h3]
   ·rw[if_neg (by simpa using h2)];simp[h2]
  ·rw[if_neg (by simpa using h1)];simp[h1]
 ·rw[if_neg (by simpa using h0)];simp[h0]
theorem eq30 (d:Nat) (w:World) (a b:Orig):(Op.equalIn (d + 6) 30 (.agg (origC a)) (.agg (origC b))).run Tryz.prog w=.ok (decide (a=b)) w:=by
 obtain⟨k,n,m,s⟩:=a
 obtain⟨k',n',m',s'⟩:=b
 rw[run_equalIn_struct w (d + 5) 30 _ _ (by kernel_rfl) (by kernel_rfl)]
 rw[show (Tryz.prog.fieldsOf 30).toList=_ from congrArg Array.toList (show Tryz.prog.fieldsOf 30=_ by unfold Program.fieldsOf;rw[Tryz.underlying30])]
 simp only[Orig.mk.injEq]
 refine Eq.trans (field_step (by decide) (part4 _ _ _ _ rfl) (part4 _ _ _ _ rfl) (bool4 _ _ _ _)) ?_
 by_cases h0:k=k'
 ·rw[if_pos (by simpa using h0)]
  refine Eq.trans (field_step (by decide) (part9 _ _ _ _ rfl) (part9 _ _ _ _ rfl) (str9 _ _ _ _)) ?_
  by_cases h1:n=n'
  ·rw[if_pos (by simpa using h1)]
   have p1:(part 24 (origC ⟨k,n,m,s⟩) 2).run Tryz.prog w=.ok (.agg (hostC m)) w:=part24 _ _ _ _ (cut30 k n m s)
   have p2:(part 24 (origC ⟨k',n',m',s'⟩) 2).run Tryz.prog w=.ok (.agg (hostC m')) w:=part24 _ _ _ _ (cut30 k' n' m' s')
   refine Eq.trans (field_step (by decide) p1 p2 (eq24 (d + 1) w m m')) ?_
   by_cases h2:m=m'
   ·rw[if_pos (by simpa using h2)]
    refine Eq.trans (field_step (by decide) (part3 _ _ _ _ rfl) (part3 _ _ _ _ rfl) (int3 _ _ _ _)) ?_
    by_cases h3:s=s'
    ·rw[if_pos (by simpa using h3)];simp[Op.eqFields,h0,h1,h2,h3]
    ·rw[if_neg (by simpa using h3)];simp[h3]
   ·rw[if_neg (by simpa using h2)];simp[h2]
  ·rw[if_neg (by simpa using h1)];simp[h1]
 ·rw[if_neg (by simpa using h0)];simp[h0]
theorem eqS (w:World) (a0 a1 a2 a3 a4 a5 a6 a7 b0 b1 b2 b3 b4 b5 b6 b7:Int):(Op.equalIn 10000 22 (.agg #[.int .i64 a0,.int .i64 a1,.int .i64 a2,.int .i64 a3,.int .i64 a4,.int .i64 a5,.int .i64 a6,.int .i64 a7]) (.agg #[.int .i64 b0,.int .i64 b1,.int .i64 b2,.int .i64 b3,.int .i64 b4,.int .i64 b5,.int .i64 b6,.int .i64 b7])).run Tryz.prog w=.ok (decide ((⟨a0,a1,a2,a3,a4,a5,a6,a7⟩:Six)=⟨b0,b1,b2,b3,b4,b5,b6,b7⟩)) w:=eq22 9998 w ⟨a0,a1,a2,a3,a4,a5,a6,a7⟩ ⟨b0,b1,b2,b3,b4,b5,b6,b7⟩
theorem eqH (w:World) (k k' m m':Int) (n n':ByteArray) (a0 a1 a2 a3 a4 a5 a6 a7 b0 b1 b2 b3 b4 b5 b6 b7:Int):(Op.equalIn 10000 24 (.agg #[.int .i64 k,.string n,.int .i64 m,.int .i64 a0,.int .i64 a1,.int .i64 a2,.int .i64 a3,.int .i64 a4,.int .i64 a5,.int .i64 a6,.int .i64 a7]) (.agg #[.int .i64 k',.string n',.int .i64 m',.int .i64 b0,.int .i64 b1,.int .i64 b2,.int .i64 b3,.int .i64 b4,.int .i64 b5,.int .i64 b6,.int .i64 b7])).run Tryz.prog w=.ok (decide ((⟨k,n,m,⟨a0,a1,a2,a3,a4,a5,a6,a7⟩⟩:Host)=⟨k',n',m',⟨b0,b1,b2,b3,b4,b5,b6,b7⟩⟩)) w:=eq24 9996 w ⟨k,n,m,⟨a0,a1,a2,a3,a4,a5,a6,a7⟩⟩ ⟨k',n',m',⟨b0,b1,b2,b3,b4,b5,b6,b7⟩⟩
end
end Go.Proofs.YtdlkjofnnefjfaaGreatDoor
