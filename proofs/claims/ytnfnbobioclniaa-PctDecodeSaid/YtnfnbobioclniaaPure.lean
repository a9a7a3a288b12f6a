/- The plain law of layer 3: the sets, encoding and decoding, over lists of bytes; no program in sight. No condition. -/
namespace Go.Proofs.Ytnfnbobioclniaa

def hasL (l : List UInt8) (c : UInt8) : Bool := l.any (· == c)
def low (c : UInt8) : Bool := decide (c.toNat < 32) || decide (126 < c.toNat)
def in2 (c : UInt8) : Bool := low c || hasL [32, 34, 35, 39, 60, 62] c
def in3 (c : UInt8) : Bool := in2 c || hasL [63, 94, 96, 123, 125] c
/-- Does a set have a byte? -/
def inS (set : Int) (c : UInt8) : Bool :=
  if set = 0 then low c else if set = 1 then low c || hasL [32, 34, 60, 62, 96] c else if set = 2 then in2 c
  else if set = 3 then in3 c else if set = 4 then in3 c || hasL [47, 58, 59, 61, 64, 91, 92, 93, 124] c else false
end Go.Proofs.Ytnfnbobioclniaa
