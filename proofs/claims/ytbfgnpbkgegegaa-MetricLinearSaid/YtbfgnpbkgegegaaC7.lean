import Derived.Test.YtbfgnpbkgegegaaC6
import Derived.Test.YtbfgnpbkgegegaaO1
